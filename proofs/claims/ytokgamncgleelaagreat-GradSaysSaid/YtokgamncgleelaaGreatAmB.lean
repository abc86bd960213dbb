
import Derived.Test.YtokgamncgleelaaGreatAmA
set_option linter.unusedVariables false
set_option linter.unusedSimpArgs false
namespace Go.AM
@[simp] theorem lk_nil {α:Type} (i:Nat):lk ([]:List (Nat×α)) i=none:=rfl
theorem Gr {α:Type} (j i:Nat) (v:α) (r:List (Nat×α)):lk ((j,v)::r) i=if j=i then some v else lk r i:=by
 simp only [lk]
 by_cases h:j=i
 ·subst h;simp
 ·have:Nat.beq j i=false:=by
   cases hb:Nat.beq j i with
   | false=>rfl
   | true=>exact absurd (Nat.eq_of_beq_eq_true hb) h
  rw [this];simp [h]
theorem getD_set_same (t:Array Value) (i:Nat) (u:Value) (h:i<t.size):(t.setIfInBounds i u).getD i undef=u:=by
 simp [Array.getD_eq_getD_getElem?,h]
theorem getD_set_ne (t:Array Value) {i j:Nat} (u:Value) (h:i≠j):(t.setIfInBounds i u).getD j undef=t.getD j undef:=by
 simp only [Array.getD_eq_getD_getElem?,Array.getElem?_setIfInBounds_ne h]
@[simp] theorem lk_same {α:Type} (i:Nat) (v:α) (r:List (Nat×α)):lk ((i,v)::r) i=some v:=by simp [Gr]
theorem lk_ne {α:Type} {j i:Nat} (h:j≠i) (v:α) (r:List (Nat×α)):lk ((j,v)::r) i=lk r i:=by simp [Gr,h]
structure Ext (G:Ctx) (s s':St) (φ φ':Phi) (w w':World):Prop where
 nx:s.nx≤s'.nx
 phi:∀ i,i<s.nx→φ' i=φ i
 ln:∀ i,i<s.nx→∀ n,s'.ln i=some n→s.ln i=some n
 kept:Kept (G.im s φ) (G.im s' φ') w w'
theorem CV.rel_ext {G:Ctx} {s s':St} {φ φ':Phi} {w w':World} (h:Ext G s s' φ φ' w w') {x:CV} {v:Value}
  (hx:x.rel w (G.im s φ) φ s.ln s.nx v):x.rel w' (G.im s' φ') φ' s'.ln s'.nx v:=by
 cases x with
 | d t x=>exact Ty.rel_mono h.kept t x [v] hx
 | osl id=>
  obtain ⟨h1,h2,h3⟩:=hx
  refine ⟨Nat.lt_of_lt_of_le h1 h.nx,h2,fun n hn=>?_⟩
  rw [h.phi id h1]
  exact h3 n (h.ln id h1 n hn)
 | ptr id off=>obtain ⟨h1,b,cap,h2,h3⟩:=hx;exact ⟨Nat.lt_of_lt_of_le h1 h.nx,b,cap,(h.phi id h1).trans h2,h3⟩
 | ep id sz i off=>obtain ⟨h1,⟨b,cap,h2,h3⟩,h4⟩:=hx;exact ⟨Nat.lt_of_lt_of_le h1 h.nx,⟨b,cap,(h.phi id h1).trans h2,h3⟩,fun n hn=>h4 n (h.ln id h1 n hn)⟩
 | wn id lo hi=>
  obtain ⟨h1,h2,h3⟩:=hx
  refine ⟨Nat.lt_of_lt_of_le h1 h.nx,h2,fun n hn=>?_⟩
  rw [h.phi id h1]
  exact h3 n (h.ln id h1 n hn)
 | ip t x off=>
  obtain ⟨b,o,c,T,z,ds,h1,h2,h3,h4,h5⟩:=hx
  obtain ⟨k1,k2⟩:=h.kept b h2 (Jv h3)
  exact ⟨b,o,c,T,z,ds,h1,k1,k2.trans h3,Ty.rel_mono h.kept t x ds h4,h5⟩
 | c v'=>exact hx
 | emp=>exact hx
theorem AV.rel_ext {G:Ctx} {s s':St} {φ φ':Phi} {w w':World} (h:Ext G s s' φ φ' w w') {x:AV} {v:Value}
  (hx:x.relR (CV.rel w (G.im s φ) φ s.ln s.nx) v):x.relR (CV.rel w' (G.im s' φ') φ' s'.ln s'.nx) v:=
 AV.mono (fun _ _=>CV.rel_ext h) hx
theorem Kj.ext {G:Ctx} {s s':St} {φ φ':Phi} {w w':World} (h:Ext G s s' φ φ' w w') {id:Nat} {ch:Chunk} (hid:id<s.nx)
  (hb:ch.live=true→∀ b cap,φ id=some (b,cap)→w'.heap[b]?=w.heap[b]?)
  (hc:Kj w (G.im s φ) φ s.ln s.nx id ch):Kj w' (G.im s' φ') φ' s'.ln s'.nx id ch:=by
 cases ch with
 | cells cs=>
  obtain ⟨b,cap,h1,vs,T,h2,h3⟩:=hc
  exact ⟨b,cap,(h.phi id hid).trans h1,vs,T,(hb rfl b cap h1).trans h2,h3.mono (fun _ _=>CV.rel_ext h)⟩
 | arr e t xs=>
  rcases hc with ⟨h1,h2⟩ | ⟨b,cap,h1,h2,h2',c,h3,h4,h5⟩
  ·exact .inl ⟨(h.phi id hid).trans h1,h2⟩
  ·refine .inr ⟨b,cap,(h.phi id hid).trans h1,h2,h2',c,(hb rfl b cap h1).trans h3,h4,fun i hi=>?_⟩
   obtain ⟨ds,k1,k2⟩:=h5 i hi
   exact ⟨ds,Ty.rel_mono h.kept t _ ds k1,k2⟩
 | hol e t xs i cs=>
  rcases hc with ⟨h1,h2⟩ | ⟨b,cap,h1,h2,h2',c,h3,h4,h5,h6⟩
  ·exact .inl ⟨(h.phi id hid).trans h1,h2⟩
  ·refine .inr ⟨b,cap,(h.phi id hid).trans h1,h2,h2',c,(hb rfl b cap h1).trans h3,h4,fun k hk hki=>?_,fun hi=>?_⟩
   ·obtain ⟨ds,k1,k2⟩:=h5 k hk hki
    exact ⟨ds,Ty.rel_mono h.kept t _ ds k1,k2⟩
   ·obtain ⟨ds,k1,k2⟩:=h6 hi
    exact ⟨ds,k1.mono (fun _ _=>CV.rel_ext h),k2⟩
 | pub e t xs=>
  rcases hc with ⟨h1,h2⟩ | ⟨b,cap,h1,h2,h3⟩
  ·exact .inl ⟨(h.phi id hid).trans h1,h2⟩
  ·refine .inr ⟨b,cap,(h.phi id hid).trans h1,h2,fun hne=>?_⟩
   obtain ⟨k1,k2⟩:=h3 hne
   obtain ⟨k3,k4⟩:=h.kept b k1 k2.lt
   exact ⟨k3,k2.mono k4 (fun x ds=>Ty.rel_mono h.kept t x ds)⟩
section
variable {G:Ctx} {φ:Phi} {s:St} {a:Act} {w:World}
theorem Sat.get (h:Sat G φ s a w) {i:Nat} {v:AV} (hi:lk s.env i=some v):v.relR (CV.rel w (G.im s φ) φ s.ln s.nx) (a.eval (.tmp i)):=(h.env i v hi).2
theorem Sat.put (h:Sat G φ s a w) {i:Nat} {v:AV} {u:Value} (hi:i<a.tmps.size) (hv:v.relR (CV.rel w (G.im s φ) φ s.ln s.nx) u) :
  Sat G φ { s with env:=(i,v)::s.env } (a.put (some i) u) w:=by
 refine ⟨h.df,h.prot,h.e_nx,h.lnp,h.frame,fun j x hj=>?_,h.heap,h.sep,h.own⟩
 simp only [Act.put,Array.size_setIfInBounds]
 by_cases hji:i=j
 ·subst hji
  simp only [lk_same,Option.some.injEq] at hj
  subst hj
  refine ⟨hi,?_⟩
  rw [getD_set_same _ _ _ hi]
  exact hv
 ·rw [lk_ne hji] at hj
  obtain ⟨h1,h2⟩:=h.env j x hj
  refine ⟨h1,?_⟩
  rw [getD_set_ne _ _ hji]
  exact h2
theorem Sat.frame' (h:Sat G φ s a w) {l:List (Nat×AV)} {a':Act} (hd:a'.defers=[])
  (hl:∀ i v,lk l i=some v→i<a'.tmps.size∧v.relR (CV.rel w (G.im s φ) φ s.ln s.nx) (a'.tmps.getD i undef)):Sat G φ { s with env:=l } a' w:=
 ⟨hd,h.prot,h.e_nx,h.lnp,h.frame,hl,h.heap,h.sep,h.own⟩
theorem Sat.drew (h:Sat G φ s a w):Sat G φ s a w.drew:=by
 have hx:Ext G s s φ φ w w.drew:=⟨Nat.le_refl _,fun _ _=>rfl,fun _ _ _ h=>h,fun b hb _=>⟨hb,rfl⟩⟩
 exact ⟨h.df,h.prot,h.e_nx,h.lnp,⟨h.frame.os,h.frame.tape,h.frame.output,h.frame.size,h.frame.block⟩,
  fun i v hi=>⟨(h.env i v hi).1,AV.rel_ext hx (h.env i v hi).2⟩,
  fun id ch hid=>⟨(h.heap id ch hid).1,(h.heap id ch hid).2.ext hx (h.heap id ch hid).1 (fun _ _ _ _=>rfl)⟩,h.sep,h.own⟩
theorem Jf (s:St) (id i:Nat) (ch:Option Chunk) (n:Nat) (l:List (Nat×AV)) :
  (St.mk l ((id,ch)::s.heap) n).at i=if id=i then ch else s.at i:=by
 simp only [St.at,Gr]
 by_cases h:id=i
 ·subst h;simp;cases ch <;> rfl
 ·simp [h]
theorem at_cons' (l:List (Nat×AV)) (hp:List (Nat×Option Chunk)) (id i:Nat) (ch:Option Chunk) (n m:Nat) :
  (St.mk l ((id,ch)::hp) n).at i=if id=i then ch else (St.mk l hp m).at i:=by
 simp only [St.at,Gr]
 by_cases h:id=i
 ·subst h;simp;cases ch <;> rfl
 ·simp [h]
def Phi.set (φ:Phi) (i:Nat) (p:Option (Nat×Nat)):Phi:=fun j=>if j=i then p else φ j
theorem Phi.set_same (φ:Phi) (i:Nat) (p:Option (Nat×Nat)):φ.set i p i=p:=by simp [Phi.set]
theorem Phi.set_lt (φ:Phi) {i j:Nat} (p:Option (Nat×Nat)) (h:j<i):φ.set i p j=φ j:=by simp [Phi.set,Nat.ne_of_lt h]
structure Grow (G:Ctx) (φ:Phi) (s:St) (w w':World) (gone:Option Nat) (p:Option (Nat×Nat)):Prop where
 os:w'.os=w.os
 tape:w'.tape=w.tape
 output:w'.output=w.output
 size:w.heap.size≤w'.heap.size
 block:∀ b,b<w.heap.size→(∀ id cap,gone=some id→φ id≠some (b,cap))→w'.heap[b]?=w.heap[b]?
 place:∀ b cap,p=some (b,cap)→b<w'.heap.size∧(w.heap.size≤b∨∃ id cap',gone=some id∧φ id=some (b,cap'))
def St.use (s:St) (k:List (Nat×AV)→List (Nat×Option Chunk)→Nat→Prop):Prop:=match s with
 | ⟨e,h,n⟩=>k e h n
theorem St.use_eq (s:St) (k:List (Nat×AV)→List (Nat×Option Chunk)→Nat→Prop):s.use k=k s.env s.heap s.nx:=rfl
def St.grown (s:St) (gone:Option Nat) (ch:Chunk):St:=
 match gone with
 | none=>{ s with heap:=(s.nx,some ch)::s.heap,nx:=s.nx+1 }
 | some id=>{ s with heap:=(s.nx,some ch)::(id,none)::s.heap,nx:=s.nx+1 }
theorem Ls (s:St) (ch:Chunk):(⟨s.env,(s.nx,some ch)::s.heap,s.nx+1⟩:St)=s.grown none ch:=rfl
theorem Jl (s:St) (gone:Option Nat) (ch:Chunk) (i:Nat) :
  (s.grown gone ch).at i=if s.nx=i then some ch else if gone=some i then none else s.at i:=by
 cases gone with
 | none=>simp [St.grown,Jf]
 | some id=>
  simp only [St.grown]
  rw [at_cons' _ _ _ _ _ _ s.nx,Jf]
  simp
theorem G1 (s:St) (gone:Option Nat) (ch:Chunk):(s.grown gone ch).nx=s.nx+1:=by cases gone <;> rfl
theorem J3 (s:St) (gone:Option Nat) (ch:Chunk):(s.grown gone ch).env=s.env:=by cases gone <;> rfl
theorem Sat.grown_ext (h:Sat G φ s a w) {gone:Option Nat} {ch:Chunk} {p:Option (Nat×Nat)} {w':World}
  (hgone:∀ id,gone=some id→∃ c,s.at id=some c∧c.live=true) (hg:Grow G φ s w w' gone p) :
  Ext G s (s.grown gone ch) φ (φ.set s.nx p) w w':=by
 refine ⟨by rw [G1];omega,fun i hi=>Phi.set_lt φ p hi,fun i hi n hn=>?_,fun b hb hlt=>?_⟩
 ·simp only [St.ln,Jl] at hn
  rw [if_neg (by omega)] at hn
  by_cases hgi:gone=some i
  ·simp [hgi] at hn
  ·rw [if_neg hgi] at hn;exact hn
 ·obtain ⟨hb1,hb2⟩:=hb
  refine ⟨⟨hb1,fun hl=>?_⟩,?_⟩
  ·obtain ⟨id,c,cap,k1,k2,k3⟩:=hl
   rw [Jl] at k1
   by_cases hid:s.nx=id
   ·subst hid
    rw [Phi.set_same] at k3
    obtain ⟨_,k4 | ⟨id',cap',k5,k6⟩⟩:=hg.place b cap k3
    ·omega
    ·obtain ⟨c',k7,k8⟩:=hgone id' k5
     exact hb2 ⟨id',c',cap',k7,k8,k6⟩
   ·rw [if_neg hid] at k1
    by_cases hgi:gone=some id
    ·simp [hgi] at k1
    ·rw [if_neg hgi] at k1
     have:=(h.heap id c k1).1
     rw [Phi.set_lt φ p this] at k3
     exact hb2 ⟨id,c,cap,k1,k2,k3⟩
  ·refine hg.block b hlt (fun id cap e1 e2=>?_)
   obtain ⟨c',k7,k8⟩:=hgone id e1
   exact hb2 ⟨id,c',cap,k7,k8,e2⟩
theorem Sat.grow (h:Sat G φ s a w) {gone:Option Nat} {ch:Chunk} {p:Option (Nat×Nat)} {w':World}
  (hgone:∀ id,gone=some id→∃ c,s.at id=some c∧c.live=true) (hg:Grow G φ s w w' gone p)
  (hframe:∀ id b cap,gone=some id→φ id=some (b,cap)→G.w0.heap.size≤b∨G.mine b)
  (hc:Kj w' (G.im (s.grown gone ch) (φ.set s.nx p)) (φ.set s.nx p) (s.grown gone ch).ln (s.grown gone ch).nx s.nx ch) :
  Sat G (φ.set s.nx p) (s.grown gone ch) a w':=by
 have hx:=h.grown_ext (ch:=ch) hgone hg
 refine ⟨h.df,fun i hi=>(Phi.set_lt φ p (by have:=h.e_nx;omega)).trans (h.prot i hi),by rw [G1];have:=h.e_nx;omega,fun i hi n hn=>h.lnp i hi n (hx.ln i (by have:=h.e_nx;omega) n hn),?_,fun i v hi=>?_,fun id c hid=>?_,?_,?_⟩
 ·refine ⟨hg.os.trans h.frame.os,hg.tape.trans h.frame.tape,hg.output.trans h.frame.output,Nat.le_trans h.frame.size hg.size,fun b hb hm=>?_⟩
  refine (hg.block b (Nat.lt_of_lt_of_le hb h.frame.size) (fun id cap e1 e2=>?_)).trans (h.frame.block b hb hm)
  rcases hframe id b cap e1 e2 with k | k
  ·omega
  ·exact hm k
 ·rw [J3] at hi
  exact ⟨(h.env i v hi).1,AV.rel_ext hx (h.env i v hi).2⟩
 ·rw [Jl] at hid
  rw [G1]
  by_cases hn:s.nx=id
  ·subst hn
   simp only [↓reduceIte,Option.some.injEq] at hid
   subst hid
   exact ⟨by omega,by rw [← G1 s gone ch];exact hc⟩
  ·rw [if_neg hn] at hid
   by_cases hgi:gone=some id
   ·simp [hgi] at hid
   ·rw [if_neg hgi] at hid
    obtain ⟨k1,k2⟩:=h.heap id c hid
    refine ⟨by omega,?_⟩
    rw [← G1 s gone ch]
    refine k2.ext hx k1 (fun hlv b cap hb=>?_)
    refine hg.block b (h.own id c b cap hid hlv hb).1 (fun id' cap' e1 e2=>?_)
    obtain ⟨c',k7,k8⟩:=hgone id' e1
    have:=h.sep id id' c c' b cap cap' hid k7 hlv k8 hb e2
    subst this
    exact hgi e1
 ·intro id id' c c' b cap cap' h1 h2 l1 l2 p1 p2
  rw [Jl] at h1 h2
  have aux:∀ (i:Nat) (c:Chunk) (cap:Nat),s.nx≠i→(if gone=some i then none else s.at i)=some c→c.live=true→φ i=some (b,cap)→∀ cap',p=some (b,cap')→False:=by
   intro i c cap hne hat hlv hp cap' hpp
   by_cases hgi:gone=some i
   ·simp [hgi] at hat
   ·rw [if_neg hgi] at hat
    obtain ⟨_,k4 | ⟨id',cap'',k5,k6⟩⟩:=hg.place b cap' hpp
    ·have:=(h.own i c b cap hat hlv hp).1;omega
    ·obtain ⟨c',k7,k8⟩:=hgone id' k5
     have:=h.sep i id' c c' b cap cap'' hat k7 hlv k8 hp k6
     subst this
     exact hgi k5
  by_cases hn:s.nx=id <;> by_cases hn':s.nx=id'
  ·omega
  ·subst hn
   rw [Phi.set_same] at p1
   rw [if_neg hn'] at h2
   have hlt:id' < s.nx:=by
    by_cases hgi:gone=some id'
    ·simp [hgi] at h2
    ·rw [if_neg hgi] at h2;exact (h.heap id' c' h2).1
   rw [Phi.set_lt φ p hlt] at p2
   exact (aux id' c' cap' hn' h2 l2 p2 cap p1).elim
  ·subst hn'
   rw [Phi.set_same] at p2
   rw [if_neg hn] at h1
   have hlt:id<s.nx:=by
    by_cases hgi:gone=some id
    ·simp [hgi] at h1
    ·rw [if_neg hgi] at h1;exact (h.heap id c h1).1
   rw [Phi.set_lt φ p hlt] at p1
   exact (aux id c cap hn h1 l1 p1 cap' p2).elim
  ·rw [if_neg hn] at h1
   rw [if_neg hn'] at h2
   by_cases hgi:gone=some id
   ·simp [hgi] at h1
   by_cases hgi':gone=some id'
   ·simp [hgi'] at h2
   rw [if_neg hgi] at h1
   rw [if_neg hgi'] at h2
   rw [Phi.set_lt φ p (h.heap id c h1).1] at p1
   rw [Phi.set_lt φ p (h.heap id' c' h2).1] at p2
   exact h.sep id id' c c' b cap cap' h1 h2 l1 l2 p1 p2
 ·intro id c b cap h1 l1 p1
  rw [Jl] at h1
  by_cases hn:s.nx=id
  ·subst hn
   rw [Phi.set_same] at p1
   obtain ⟨k1,k4 | ⟨id',cap'',k5,k6⟩⟩:=hg.place b cap p1
   ·exact ⟨k1,.inl (Nat.le_trans h.frame.size k4)⟩
   ·exact ⟨k1,hframe id' b cap'' k5 k6⟩
  ·rw [if_neg hn] at h1
   by_cases hgi:gone=some id
   ·simp [hgi] at h1
   ·rw [if_neg hgi] at h1
    rw [Phi.set_lt φ p (h.heap id c h1).1] at p1
    obtain ⟨k1,k2⟩:=h.own id c b cap h1 l1 p1
    exact ⟨Nat.lt_of_lt_of_le k1 hg.size,k2⟩
theorem Sat.turn (h:Sat G φ s a w) {id:Nat} {ch ch':Chunk} {w':World} (hat:s.at id=some ch) (hlive:ch.live=true) (hlen:ch'.len=ch.len)
  (hos:w'.os=w.os) (htape:w'.tape=w.tape) (hout:w'.output=w.output) (hsize:w'.heap.size=w.heap.size)
  (hblock:∀ b,(∀ cap,φ id≠some (b,cap))→w'.heap[b]?=w.heap[b]?)
  (hc:Ext G s { s with heap:=(id,some ch')::s.heap } φ φ w w'→Kj w' (G.im { s with heap:=(id,some ch')::s.heap } φ) φ (St.ln { s with heap:=(id,some ch')::s.heap }) s.nx id ch') :
  Sat G φ { s with heap:=(id,some ch')::s.heap } a w':=by
 have hx:Ext G s { s with heap:=(id,some ch')::s.heap } φ φ w w':=by
  refine ⟨Nat.le_refl _,fun _ _=>rfl,fun i hi n hn=>?_,fun b hb hlt=>?_⟩
  ·simp only [St.ln,Jf] at hn ⊢
   by_cases hid:id=i
   ·subst hid;simp only [↓reduceIte,hlen] at hn;rw [hat];exact hn
   ·rw [if_neg hid] at hn;exact hn
  ·obtain ⟨hb1,hb2⟩:=hb
   refine ⟨⟨hb1,fun hl=>?_⟩,?_⟩
   ·obtain ⟨i,c,cap,k1,k2,k3⟩:=hl
    rw [Jf] at k1
    by_cases hid:id=i
    ·subst hid;exact hb2 ⟨id,ch,cap,hat,hlive,k3⟩
    ·rw [if_neg hid] at k1;exact hb2 ⟨i,c,cap,k1,k2,k3⟩
   ·exact hblock b (fun cap e=>hb2 ⟨id,ch,cap,hat,hlive,e⟩)
 refine ⟨h.df,h.prot,h.e_nx,fun i hi n hn=>h.lnp i hi n (hx.ln i (by have:=h.e_nx;omega) n hn),?_,fun i v hi=>⟨(h.env i v hi).1,AV.rel_ext hx (h.env i v hi).2⟩,fun i c hi=>?_,?_,?_⟩
 ·refine ⟨hos.trans h.frame.os,htape.trans h.frame.tape,hout.trans h.frame.output,by rw [hsize];exact h.frame.size,fun b hb hm=>?_⟩
  refine (hblock b (fun cap e=>?_)).trans (h.frame.block b hb hm)
  rcases (h.own id ch b cap hat hlive e).2 with k | k
  ·omega
  ·exact hm k
 ·rw [Jf] at hi
  by_cases hid:id=i
  ·subst hid
   simp only [↓reduceIte,Option.some.injEq] at hi
   subst hi
   exact ⟨(h.heap id ch hat).1,hc hx⟩
  ·rw [if_neg hid] at hi
   obtain ⟨k1,k2⟩:=h.heap i c hi
   refine ⟨k1,k2.ext hx k1 (fun hlv b cap hb=>hblock b (fun cap' e=>?_))⟩
   exact hid (h.sep id i ch c b cap' cap hat hi hlive hlv e hb)
 ·intro i i' c c' b cap cap' h1 h2 l1 l2 p1 p2
  rw [Jf] at h1 h2
  have aux:∀ j cj,(if id=j then some ch' else s.at j)=some cj→cj.live=true→∃ cj',s.at j=some cj'∧cj'.live=true:=by
   intro j cj hj lj
   by_cases hid:id=j
   ·subst hid;exact ⟨ch,hat,hlive⟩
   ·rw [if_neg hid] at hj;exact ⟨cj,hj,lj⟩
  obtain ⟨d1,e1,f1⟩:=aux i c h1 l1
  obtain ⟨d2,e2,f2⟩:=aux i' c' h2 l2
  exact h.sep i i' d1 d2 b cap cap' e1 e2 f1 f2 p1 p2
 ·intro i c b cap h1 l1 p1
  rw [Jf] at h1
  rw [hsize]
  by_cases hid:id=i
  ·subst hid;exact h.own id ch b cap hat hlive p1
  ·rw [if_neg hid] at h1;exact h.own i c b cap h1 l1 p1
end
end Go.AM
