
import Derived.Test.YtokgamncgleelaaGreatAmK
set_option linter.unusedVariables false
set_option linter.unusedSimpArgs false
namespace Go.AM
inductive Pat where
 | dat (t:Ty) (x:t.D)
 | raw (b:Bool) (cs:List CV)
def Ty.isAgg:Ty→Bool
 | .p _ _=>true
 | .u=>true
 | _=>false
def avOf (t:Ty) (x:t.D):AV:=match t.isAgg with
 | true=>.agg (Jc t x)
 | false=>.one (.d t x)
def Pat.av:Pat→AV
 | .dat t x=>avOf t x
 | .raw b cs=>toAV (b,cs)
structure Sh where
 env:List (Nat×Pat)
 heap:List (Nat×Chunk)
 nx:Nat
def envSt:List (Nat×Pat)→List (Nat×AV)
 | []=>[]
 | (i,p)::r=>(i,p.av)::envSt r
def heapSt:List (Nat×Chunk)→List (Nat×Option Chunk)
 | []=>[]
 | (i,c)::r=>(i,some c)::heapSt r
def Sh.st (J:Sh):St:=⟨envSt J.env,heapSt J.heap,J.nx⟩
abbrev Ren:=List (Nat×Option Nat)
def noCV:CV:=.d .u ()
def CV.ren (ρ:Ren):CV→CV
 | .osl j=>match lk ρ j with
  | some (some id)=>.osl id
  | some none=>.c (.slice none 0 0)
  | none=>noCV
 | .ptr j off=>match lk ρ j with
  | some (some id)=>.ptr id off
  | _=>noCV
 | .ep j sz i off=>match lk ρ j with
  | some (some id)=>.ep id sz i off
  | _=>noCV
 | .wn _ _ _=>noCV
 | .d t x=>.d t x
 | .ip t x off=>.ip t x off
 | .c v=>.c v
 | .emp=>.emp
def vw (s:St):CV→CV
 | .osl id=>match s.at id with
  | some (.pub _ t xs)=>.d (.sl t) xs
  | _=>.osl id
 | .d t x=>.d t x
 | .ptr j off=>.ptr j off
 | .ep j sz i off=>.ep j sz i off
 | .wn j l n=>.wn j l n
 | .ip t x off=>.ip t x off
 | .c v=>.c v
 | .emp=>.emp
def Chunk.ren (ρ:Ren):Chunk→Chunk
 | .cells cs=>.cells (cs.map (CV.ren ρ))
 | .hol e t xs i cs=>.hol e t xs i (cs.map (CV.ren ρ))
 | .arr e t xs=>.arr e t xs
 | .pub e t xs=>.pub e t xs
def Chunk.vw (s:St):Chunk→Chunk
 | .cells cs=>.cells (cs.map (AM.vw s))
 | .hol e t xs i cs=>.hol e t xs i (cs.map (AM.vw s))
 | .arr e t xs=>.arr e t xs
 | .pub e t xs=>.pub e t xs
def AV.sh (s:St):AV→Option (Bool×List CV)
 | .one x=>some (false,[vw s x])
 | .agg cs=>some (true,cs.map (vw s))
 | .tup _=>none
def datsK (s:St):List (Nat×Pat)→(List Nat→Prop)→Prop
 | [],k=>k []
 | (i,.dat t x)::r,k=>match lk s.env i with
  | some (.one y)=>match t.isAgg with
   | false=>imp s t [y] (fun x' rest ids=>x'=x∧datsK s r (fun ids'=>k (ids++ids')))
   | true=>False
  | some (.agg ys)=>match t.isAgg with
   | true=>imp s t ys (fun x' rest ids=>rest=[]∧x'=x∧datsK s r (fun ids'=>k (ids++ids')))
   | false=>False
  | _=>False
 | (_,.raw _ _)::r,k=>datsK s r k
def rawsE (ρ:Ren) (s:St):List (Nat×Pat)→Prop
 | []=>True
 | (_,.dat _ _)::r=>rawsE ρ s r
 | (i,.raw b cs)::r=>(lk s.env i).bind (AV.sh s)=some (b,cs.map (CV.ren ρ))∧rawsE ρ s r
def virt:Chunk→Prop
 | .arr _ _ xs=>xs=[]
 | .hol _ _ xs _ _=>xs=[]
 | _=>False
def heapE (ρ:Ren) (s:St):List (Nat×Chunk)→Prop
 | []=>True
 | (j,ch)::r=>(match ch.live,lk ρ j with
  | true,some (some id)=>(s.at id).map (Chunk.vw s)=some (ch.ren ρ)
  | true,some none=>virt ch
  | _,_=>False)∧heapE ρ s r
def renB (nx:Nat):Ren→List Nat→Bool
 | [],_=>true
 | (j,o)::r,seen=>Nat.blt j nx&&(match o with
  | some id=>!(memb id seen)&&renB nx r (id::seen)
  | none=>renB nx r seen)
section
variable {G G':Ctx} {φ φ':Phi} {s:St} {a:Act} {w:World} {ρ:Ren} {J:Sh}
theorem lk_envSt:∀ (l:List (Nat×Pat)) (i:Nat),lk (envSt l) i=(lk l i).map Pat.av
 | [],_=>rfl
 | (j,p)::r,i=>by
  simp only [envSt,Gr,lk_envSt r]
  split <;> rfl
theorem lk_heapSt:∀ (l:List (Nat×Chunk)) (i:Nat),lk (heapSt l) i=(lk l i).map some
 | [],_=>rfl
 | (j,p)::r,i=>by
  simp only [heapSt,Gr,lk_heapSt r]
  split <;> rfl
theorem Sh.at_st (J:Sh) (i:Nat):J.st.at i=lk J.heap i:=by
 simp only [St.at,Sh.st,lk_heapSt]
 cases lk J.heap i <;> rfl
theorem Jk:∀ {l:List (Nat×Chunk)},heapE ρ s l→∀ j ch,lk l j=some ch→ch.live=true∧
  ((∃ id,lk ρ j=some (some id)∧(s.at id).map (Chunk.vw s)=some (ch.ren ρ))∨(lk ρ j=some none∧((∃ e t,ch = .arr e t [])∨∃ e t i cs,ch = .hol e t [] i cs)))
 | [],_,j,ch,h=>by simp at h
 | (j',ch')::r,⟨h1,h2⟩,j,ch,h=>by
  rw [Gr] at h
  split at h
  ·rename_i e
   subst e
   cases h
   split at h1
   ·rename_i hl hr
    exact ⟨hl,.inl ⟨_,hr,h1⟩⟩
   ·rename_i hl hr
    refine ⟨hl,.inr ⟨hr,?_⟩⟩
    cases ch' with
    | arr e t xs=>have h1':xs=[]:=h1;subst h1';exact .inl ⟨e,t,rfl⟩
    | hol e t xs i cs=>have h1':xs=[]:=h1;subst h1';exact .inr ⟨e,t,i,cs,rfl⟩
    | cells cs=>exact h1.elim
    | pub e t xs=>exact h1.elim
   ·exact h1.elim
  ·exact Jk h2 j ch h
theorem Kf:∀ {r:Ren} {seen:List Nat} {nx:Nat},renB nx r seen=true→∀ j o,lk r j=some o→j<nx
 | [],_,_,_,j,o,h=>by simp at h
 | (j',o')::r,seen,nx,hb,j,o,h=>by
  simp only [renB,Bool.and_eq_true] at hb
  rw [Gr] at h
  split at h
  ·rename_i e;subst e;exact (Nat.blt_eq▸hb.1:j' < nx)
  ·cases o' with
   | none=>exact Kf hb.2 j o h
   | some id=>simp only [Bool.and_eq_true] at hb;exact Kf hb.2.2 j o h
theorem memb_false {i:Nat}:∀ {l:List Nat},(!memb i l)=true→i ∉ l:=fun h=>Ka (by simpa using h)
theorem renB_seen:∀ {r:Ren} {seen:List Nat} {nx:Nat},renB nx r seen=true→∀ j id,lk r j=some (some id)→id ∉ seen
 | [],_,_,_,j,o,h=>by simp at h
 | (j',o')::r,seen,nx,hb,j,id,h=>by
  simp only [renB,Bool.and_eq_true] at hb
  rw [Gr] at h
  cases o' with
  | none=>
   split at h
   ·cases h
   ·exact renB_seen hb.2 j id h
  | some id'=>
   simp only [Bool.and_eq_true] at hb
   split at h
   ·cases h;exact memb_false hb.2.1
   ·exact fun hm=>renB_seen hb.2.2 j id h (List.mem_cons_of_mem _ hm)
theorem renB_inj:∀ {r:Ren} {seen:List Nat} {nx:Nat},renB nx r seen=true→∀ j j' id,lk r j=some (some id)→lk r j'=some (some id)→j=j'
 | [],_,_,_,j,j',id,h,_=>by simp at h
 | (i,o)::r,seen,nx,hb,j,j',id,h,h'=>by
  simp only [renB,Bool.and_eq_true] at hb
  rw [Gr] at h h'
  cases o with
  | none=>
   split at h
   ·cases h
   ·split at h'
    ·cases h'
    ·exact renB_inj hb.2 j j' id h h'
  | some id'=>
   simp only [Bool.and_eq_true] at hb
   split at h
   ·rename_i e1
    split at h'
    ·rename_i e2;omega
    ·cases h
     exact absurd (List.mem_cons_self) (renB_seen hb.2.2 j' _ h')
   ·split at h'
    ·cases h'
     exact absurd (List.mem_cons_self) (renB_seen hb.2.2 j _ h)
    ·exact renB_inj hb.2.2 j j' id h h'
structure Fit (G G':Ctx) (φ φ':Phi) (s:St) (w:World) (ρ:Ren) (J:Sh):Prop where
 some':∀ j id,lk ρ j=some (some id)→φ' j=φ id
 none':∀ j,lk ρ j=some none→φ' j=none
 heap:heapE ρ s J.heap
 names:renB J.nx ρ []=true
 im:∀ b,b<w.heap.size→G.im s φ b→G'.im J.st φ' b
theorem no_rel {w:World} {im:Nat→Prop} {φ:Phi} {ln:Nat→Option Nat} {nx:Nat} {v:Value}:¬noCV.rel w im φ ln nx v:=fun h=>by
 have:[v]=[]:=h
 cases this
theorem vw_rel (h:Sat G φ s a w) {x:CV} {v:Value} (hx:CV.rel w (G.im s φ) φ s.ln s.nx x v):CV.rel w (G.im s φ) φ s.ln s.nx (vw s x) v:=by
 cases x <;> try exact hx
 rename_i i
 simp only [vw]
 split
 ·rename_i e t xs hat;exact h.pub_data hat hx
 ·exact hx
theorem CV.fit (h:Sat G φ s a w) (f:Fit G G' φ φ' s w ρ J) {x y:CV} {v:Value} (hxy:vw s x=y.ren ρ) (hx0:CV.rel w (G.im s φ) φ s.ln s.nx x v) :
  CV.rel w (G'.im J.st φ') φ' J.st.ln J.st.nx y v:=by
 have hx:=vw_rel h hx0
 rw [hxy] at hx
 cases y with
 | d t d=>exact Ty.rel_mono (fun b hb hlt=>⟨f.im b hlt hb,rfl⟩) t d [v] hx
 | osl j=>
  simp only [CV.ren] at hx hxy
  split at hx
  ·rename_i id hid
   obtain ⟨x1,x2,x3⟩:=hx
   refine ⟨Kf f.names j _ hid,x2,fun n hn=>?_⟩
   simp only [St.ln,Sh.at_st] at hn
   cases hc:lk J.heap j with
   | none=>simp [hc] at hn
   | some ch=>
    simp only [hc] at hn
    obtain ⟨hl,⟨id',hid',hat⟩ | ⟨hno,_⟩⟩:=Jk f.heap j ch hc
    ·rw [hid] at hid';cases hid'
     rw [f.some' j id hid]
     refine x3 n ?_
     cases ch with
     | cells cs=>simp [Chunk.len] at hn
     | pub e t xs=>cases hl
     | hol e t xs i cs=>
      simp only [Chunk.ren] at hat
      cases hs:s.at id with
      | none=>rw [hs] at hat;cases hat
      | some c0=>
       rw [hs] at hat
       simp only [Option.map_some,Option.some.injEq] at hat
       cases c0 <;> simp only [Chunk.vw,reduceCtorEq,Chunk.hol.injEq] at hat
       obtain ⟨rfl,rfl,hxx,_⟩:=hat
       cases hxx
       simp only [St.ln,hs]
       exact hn
     | arr e t xs=>
      simp only [Chunk.ren] at hat
      cases hs:s.at id with
      | none=>rw [hs] at hat;cases hat
      | some c0=>
       rw [hs] at hat
       simp only [Option.map_some,Option.some.injEq] at hat
       cases c0 <;> simp only [Chunk.vw,reduceCtorEq,Chunk.arr.injEq] at hat
       obtain ⟨rfl,rfl,hxx⟩:=hat
       cases hxx
       simp only [St.ln,hs]
       exact hn
    ·rw [hid] at hno;cases hno
  ·rename_i hno
   obtain ⟨rfl,x2⟩:=hx
   refine ⟨Kf f.names j _ hno,x2,fun n hn=>.inr ⟨f.none' j hno,?_,rfl⟩⟩
   simp only [St.ln,Sh.at_st] at hn
   cases hc:lk J.heap j with
   | none=>simp [hc] at hn
   | some ch=>
    simp only [hc] at hn
    obtain ⟨_,⟨id',hid',_⟩ | ⟨_,⟨e,t,rfl⟩ | ⟨e,t,i,cs,rfl⟩⟩⟩:=Jk f.heap j ch hc
    ·rw [hno] at hid';cases hid'
    ·simpa [Chunk.len] using hn.symm
    ·simpa [Chunk.len] using hn.symm
  ·exact absurd hx no_rel
 | ptr j off=>
  simp only [CV.ren] at hx
  split at hx
  ·rename_i id hid
   obtain ⟨x1,b,cap,x2,x3⟩:=hx
   exact ⟨Kf f.names j _ hid,b,cap,(f.some' j id hid).trans x2,x3⟩
  ·exact absurd hx no_rel
 | wn j l n=>exact absurd hx no_rel
 | ep j sz i off=>
  simp only [CV.ren] at hx
  split at hx
  ·rename_i id hid
   obtain ⟨x1,⟨b,cap,x2,x3⟩,x4⟩:=hx
   refine ⟨Kf f.names j _ hid,⟨b,cap,(f.some' j id hid).trans x2,x3⟩,fun n hn=>x4 n ?_⟩
   simp only [St.ln,Sh.at_st] at hn
   cases hc:lk J.heap j with
   | none=>simp [hc] at hn
   | some ch=>
    simp only [hc] at hn
    obtain ⟨hl,⟨id',hid',hat⟩ | ⟨hno,_⟩⟩:=Jk f.heap j ch hc
    ·rw [hid] at hid';cases hid'
     cases ch with
     | cells cs=>simp [Chunk.len] at hn
     | pub e t xs=>cases hl
     | hol e t xs i cs=>
      simp only [Chunk.ren] at hat
      cases hs:s.at id with
      | none=>rw [hs] at hat;cases hat
      | some c0=>
       rw [hs] at hat
       simp only [Option.map_some,Option.some.injEq] at hat
       cases c0 <;> simp only [Chunk.vw,reduceCtorEq,Chunk.hol.injEq] at hat
       obtain ⟨rfl,rfl,hxx,_⟩:=hat
       cases hxx
       simp only [St.ln,hs]
       exact hn
     | arr e t xs=>
      simp only [Chunk.ren] at hat
      cases hs:s.at id with
      | none=>rw [hs] at hat;cases hat
      | some c0=>
       rw [hs] at hat
       simp only [Option.map_some,Option.some.injEq] at hat
       cases c0 <;> simp only [Chunk.vw,reduceCtorEq,Chunk.arr.injEq] at hat
       obtain ⟨rfl,rfl,hxx⟩:=hat
       cases hxx
       simp only [St.ln,hs]
       exact hn
    ·rw [hid] at hno;cases hno
  ·exact absurd hx no_rel
 | ip t d off=>
  obtain ⟨b,o,c,T,z,ds,h1,h2,h3,h4,h5⟩:=hx
  exact ⟨b,o,c,T,z,ds,h1,f.im b (Jv h3) h2,h3,Ty.rel_mono (fun b hb hlt=>⟨f.im b hlt hb,rfl⟩) t d ds h4,h5⟩
 | c v'=>exact hx
 | emp=>exact hx
theorem All2.fit (h:Sat G φ s a w) (f:Fit G G' φ φ' s w ρ J):∀ {cs ds:List CV} {vs:List Value},cs.map (vw s)=ds.map (CV.ren ρ)→All2 (CV.rel w (G.im s φ) φ s.ln s.nx) cs vs→
  All2 (CV.rel w (G'.im J.st φ') φ' J.st.ln J.st.nx) ds vs
 | [],[],_,_,.nil=>.nil
 | [],_::_,_,h1,_=>by cases h1
 | _::_,[],_,h1,_=>by cases h1
 | c::cs,d::ds,_,h1,.cons h2 h3=>by
  simp only [List.map_cons,List.cons.injEq] at h1
  exact .cons (CV.fit h f h1.1 h2) (All2.fit h f h1.2 h3)
theorem Kj.fit (h:Sat G φ s a w) (f:Fit G G' φ φ' s w ρ J) {j:Nat} {ch:Chunk} (hj:J.st.at j=some ch):j<J.nx∧ch.live=true∧Kj w (G'.im J.st φ') φ' J.st.ln J.st.nx j ch∧
  ∀ b cap,φ' j=some (b,cap)→∃ id c,lk ρ j=some (some id)∧s.at id=some c∧c.live=true∧φ id=some (b,cap):=by
 rw [Sh.at_st] at hj
 obtain ⟨hl,⟨id,hid,hat⟩ | ⟨hno,⟨e,t,rfl⟩ | ⟨e,t,i,cs,rfl⟩⟩⟩:=Jk f.heap j ch hj
 ·cases hs:s.at id with
  | none=>rw [hs] at hat;cases hat
  | some c0=>
   rw [hs] at hat
   simp only [Option.map_some,Option.some.injEq] at hat
   have hc0:=(h.heap id c0 hs).2
   have hlive:c0.live=true:=by
    cases ch <;> cases c0 <;> simp only [Chunk.vw,Chunk.ren,reduceCtorEq] at hat <;> first | rfl | cases hl
   refine ⟨Kf f.names j _ hid,hl,?_,fun b cap hb=>⟨id,c0,hid,hs,hlive,by rw [← f.some' j id hid];exact hb⟩⟩
   cases ch with
   | pub e t xs=>cases hl
   | cells cs=>
    cases c0 <;> simp only [Chunk.vw,Chunk.ren,reduceCtorEq,Chunk.cells.injEq] at hat
    obtain ⟨b,cap,h1,vs,T,h2,h3⟩:=hc0
    exact ⟨b,cap,(f.some' j id hid).trans h1,vs,T,h2,All2.fit h f hat h3⟩
   | arr e t xs=>
    cases c0 <;> simp only [Chunk.vw,Chunk.ren,reduceCtorEq,Chunk.arr.injEq] at hat
    obtain ⟨rfl,rfl,hxx⟩:=hat
    cases hxx
    rcases hc0 with ⟨h1,h2⟩ | ⟨b,cap,h1,h2,h2',c,h3,h4,h5⟩
    ·exact .inl ⟨(f.some' j id hid).trans h1,h2⟩
    ·refine .inr ⟨b,cap,(f.some' j id hid).trans h1,h2,h2',c,h3,h4,fun i hi=>?_⟩
     obtain ⟨ds,k1,k2⟩:=h5 i hi
     exact ⟨ds,Ty.rel_mono (fun b hb hlt=>⟨f.im b hlt hb,rfl⟩) _ _ ds k1,k2⟩
   | hol e t xs i cs=>
    cases c0 <;> simp only [Chunk.vw,Chunk.ren,reduceCtorEq,Chunk.hol.injEq] at hat
    obtain ⟨rfl,rfl,hxx,rfl,hcs⟩:=hat
    cases hxx
    rcases hc0 with ⟨h1,h2⟩ | ⟨b,cap,h1,h2,h2',c,h3,h4,h5,h6⟩
    ·exact .inl ⟨(f.some' j id hid).trans h1,h2⟩
    ·refine .inr ⟨b,cap,(f.some' j id hid).trans h1,h2,h2',c,h3,h4,fun k hk hki=>?_,fun hi=>?_⟩
     ·obtain ⟨ds,k1,k2⟩:=h5 k hk hki
      exact ⟨ds,Ty.rel_mono (fun b hb hlt=>⟨f.im b hlt hb,rfl⟩) _ _ ds k1,k2⟩
     ·obtain ⟨ds,k1,k2⟩:=h6 hi
      exact ⟨ds,All2.fit h f hcs k1,k2⟩
 ·exact ⟨Kf f.names j _ hno,rfl,.inl ⟨f.none' j hno,rfl⟩,fun b cap hb=>by rw [f.none' j hno] at hb;cases hb⟩
 ·exact ⟨Kf f.names j _ hno,rfl,.inl ⟨f.none' j hno,rfl⟩,fun b cap hb=>by rw [f.none' j hno] at hb;cases hb⟩
theorem avOf_rel {w:World} {im:Nat→Prop} {φ:Phi} {ln:Nat→Option Nat} {nx:Nat} {t:Ty} {x:t.D} {v:Value} (h:∃ vs,t.rel w im x vs∧((t.isAgg=true∧v = .agg ⟨vs⟩)∨(t.isAgg=false∧vs=[v]))) :
  (avOf t x).relR (CV.rel w im φ ln nx) v:=by
 obtain ⟨vs,h1,⟨h2,rfl⟩ | ⟨h2,rfl⟩⟩:=h
 ·simp only [avOf,h2]
  exact ⟨vs,rfl,Gz t x vs h1⟩
 ·simp only [avOf,h2]
  exact h1
theorem dats_spec (h:Sat G φ s a w):∀ (l:List (Nat×Pat)) (k:List Nat→Prop),datsK s l k→∃ ids,k ids∧Outs s ids∧
  ∀ i t x,(i,Pat.dat t x) ∈ l→i<a.tmps.size∧∀ im' φ' ln' nx',(∀ b,G.im s φ b→im' b)→(∀ id ∈ ids,∀ b cap,φ id=some (b,cap)→im' b)→
   (avOf t x).relR (CV.rel w im' φ' ln' nx') (a.tmps.getD i undef)
 | [],k,hk=>⟨[],hk,fun _ h=>by simp at h,fun i t x hm=>by simp at hm⟩
 | (i,.raw b cs)::r,k,hk=>by
  obtain ⟨ids,h1,h2,h3⟩:=dats_spec h r k hk
  refine ⟨ids,h1,h2,fun j t x hm=>?_⟩
  rcases List.mem_cons.1 hm with e | hm
  ·cases e
  ·exact h3 j t x hm
 | (i,.dat t x)::r,k,hk=>by
  simp only [datsK] at hk
  have combine:∀ (ids ids':List Nat),Outs s ids→Outs s ids'→Outs s (ids++ids'):=fun ids ids' h1 h2 id hid=>by
   rcases List.mem_append.1 hid with hid | hid
   ·exact h1 id hid
   ·exact h2 id hid
  split at hk
  ·rename_i y hv
   split at hk
   ·rename_i ha
    obtain ⟨hlt,hu⟩:=h.env i _ hv
    obtain ⟨x',rest,ids,v1,v2,⟨e1,k1⟩,e2,k2,k3,k4,k5⟩:=imp_spec h t [y] _ [_] hk (.cons hu .nil)
    subst e1
    obtain ⟨ids',h1,h2,h3⟩:=dats_spec h r _ k1
    refine ⟨ids++ids',h1,combine _ _ k4 h2,fun j t' x'' hm=>?_⟩
    rcases List.mem_cons.1 hm with e | hm
    ·cases e
     refine ⟨hlt,fun im' φ' ln' nx' hi hids=>avOf_rel ⟨v1,k5 im' hi (fun id hid=>hids id (by simp [hid])),.inr ⟨ha,?_⟩⟩⟩
     have hn1:t.n=1:=by cases t <;> first | rfl | cases ha
     rw [hn1] at k2
     match v1,k2,e2 with
     | [z],_,e2=>simp only [List.cons_append,List.nil_append,List.cons.injEq] at e2;rw [e2.1]
    ·obtain ⟨g1,g2⟩:=h3 j t' x'' hm
     exact ⟨g1,fun im' φ' ln' nx' hi hids=>g2 im' φ' ln' nx' hi (fun id hid=>hids id (by simp [hid]))⟩
   ·exact hk.elim
  ·rename_i ys hv
   split at hk
   ·rename_i ha
    obtain ⟨hlt,us,hu1,hu2⟩:=h.env i _ hv
    obtain ⟨x',rest,ids,v1,v2,⟨e0,e1,k1⟩,e2,k2,k3,k4,k5⟩:=imp_spec h t ys _ us hk hu2
    subst e1
    subst e0
    obtain ⟨ids',h1,h2,h3⟩:=dats_spec h r _ k1
    refine ⟨ids++ids',h1,combine _ _ k4 h2,fun j t' x'' hm=>?_⟩
    rcases List.mem_cons.1 hm with e | hm
    ·cases e
     refine ⟨hlt,fun im' φ' ln' nx' hi hids=>avOf_rel ⟨v1,k5 im' hi (fun id hid=>hids id (by simp [hid])),.inl ⟨ha,?_⟩⟩⟩
     cases k3
     rw [hu1,e2,List.append_nil]
    ·obtain ⟨g1,g2⟩:=h3 j t' x'' hm
     exact ⟨g1,fun im' φ' ln' nx' hi hids=>g2 im' φ' ln' nx' hi (fun id hid=>hids id (by simp [hid]))⟩
   ·exact hk.elim
  ·exact hk.elim
theorem raws_spec:∀ {l:List (Nat×Pat)},rawsE ρ s l→∀ i b cs,(i,Pat.raw b cs) ∈ l→(lk s.env i).bind (AV.sh s)=some (b,cs.map (CV.ren ρ))
 | [],_,i,b,cs,hm=>by simp at hm
 | (i',.dat t x)::r,h,i,b,cs,hm=>by
  rcases List.mem_cons.1 hm with e | hm
  ·cases e
  ·exact raws_spec (l:=r) h i b cs hm
 | (i',.raw b' cs')::r,⟨h1,h2⟩,i,b,cs,hm=>by
  rcases List.mem_cons.1 hm with e | hm
  ·cases e;exact h1
  ·exact raws_spec h2 i b cs hm
theorem raw_fit (h:Sat G φ s a w) (f:Fit G G' φ φ' s w ρ J) {i:Nat} {b:Bool} {cs:List CV} (hr:(lk s.env i).bind (AV.sh s)=some (b,cs.map (CV.ren ρ))) :
  i<a.tmps.size∧(toAV (b,cs)).relR (CV.rel w (G'.im J.st φ') φ' J.st.ln J.st.nx) (a.tmps.getD i undef):=by
 cases hv:lk s.env i with
 | none=>rw [hv] at hr;cases hr
 | some v=>
  rw [hv] at hr
  obtain ⟨hlt,hu⟩:=h.env i v hv
  refine ⟨hlt,?_⟩
  simp only [Option.bind_some] at hr
  cases v with
  | tup vs=>cases hr
  | one x=>
   simp only [AV.sh,Option.some.injEq,Prod.mk.injEq] at hr
   obtain ⟨rfl,hr⟩:=hr
   match cs,hr with
   | [],hr=>cases hr
   | _::_::_,hr=>simp at hr
   | [y],hr=>
    simp only [List.map_cons,List.map_nil,List.cons.injEq,and_true] at hr
    exact CV.fit h f hr hu
  | agg ys=>
   simp only [AV.sh,Option.some.injEq,Prod.mk.injEq] at hr
   obtain ⟨rfl,hr⟩:=hr
   obtain ⟨us,hu1,hu2⟩:=hu
   exact ⟨us,hu1,All2.fit h f hr hu2⟩
theorem Lq {α:Type}:∀ {l:List (Nat×α)} {i:Nat} {v:α},lk l i=some v→(i,v) ∈ l
 | [],i,v,h=>by simp at h
 | (j,u)::r,i,v,h=>by
  rw [Gr] at h
  split at h
  ·rename_i e;subst e;cases h;exact List.mem_cons_self
  ·exact List.mem_cons_of_mem _ (Lq h)
end
end Go.AM
