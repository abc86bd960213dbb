
import Derived.Test.YtokgamncgleelaaGreatAmL
set_option linter.unusedVariables false
set_option linter.unusedSimpArgs false
namespace Go.AM
def Weak (ρ:Ren) (s:St) (J:Sh):Prop:=datsK s J.env (fun ids=>pubK ids s (fun s1=>rawsE ρ s1 J.env∧heapE ρ s1 J.heap))
def protB (e:Nat):Ren→Bool
 | []=>true
 | (j,o)::r=>(match Nat.blt j e with
  | true=>match o with
   | some id=>Nat.beq id j
   | none=>false
  | false=>true)&&protB e r
theorem protB_spec:∀ {e:Nat} {r:Ren},protB e r=true→∀ j o,lk r j=some o→j<e→o=some j
 | _,[],_,j,o,h,_=>by simp at h
 | e,(j',o')::r,hb,j,o,h,hj=>by
  simp only [protB,Bool.and_eq_true] at hb
  rw [Gr] at h
  split at h
  ·rename_i e1
   subst e1
   cases h
   have h1:=hb.1
   have hlt:Nat.blt j' e=true:=by rw [Nat.blt_eq];exact hj
   rw [hlt] at h1
   cases o' with
   | none=>cases h1
   | some id=>exact congrArg some (Nat.eq_of_beq_eq_true h1)
  ·exact protB_spec hb.2 j o h hj
section
variable {G G':Ctx} {φ φ':Phi} {s:St} {a:Act} {w:World} {ρ:Ren} {J:Sh}
theorem J2 (h:Sat G φ s a w) (hE:heapE ρ s J.heap) (h1:∀ j id,lk ρ j=some (some id)→φ' j=φ id) (h2:∀ j,lk ρ j=some none→φ' j=none) {j:Nat} {ch:Chunk} (hj:J.st.at j=some ch) :
  ∀ b cap,φ' j=some (b,cap)→∃ id c,lk ρ j=some (some id)∧s.at id=some c∧c.live=true∧φ id=some (b,cap):=by
 rw [Sh.at_st] at hj
 obtain ⟨hl,⟨id,hid,hat⟩ | ⟨hno,_⟩⟩:=Jk hE j ch hj
 ·intro b cap hb
  cases hs:s.at id with
  | none=>rw [hs] at hat;cases hat
  | some c0=>
   rw [hs] at hat
   simp only [Option.map_some,Option.some.injEq] at hat
   have hlive:c0.live=true:=by
    cases ch <;> cases c0 <;> simp only [Chunk.vw,Chunk.ren,reduceCtorEq] at hat <;> first | rfl | cases hl
   exact ⟨id,c0,hid,hs,hlive,by rw [← h1 j id hid];exact hb⟩
 ·intro b cap hb
  rw [h2 j hno] at hb;cases hb
theorem ln_from (hE:heapE ρ s J.heap) {j id:Nat} (hid:lk ρ j=some (some id)) {n:Nat} (hn:J.st.ln j=some n):s.ln id=some n:=by
 simp only [St.ln,Sh.at_st] at hn
 cases hc:lk J.heap j with
 | none=>simp [hc] at hn
 | some ch=>
  simp only [hc] at hn
  obtain ⟨hl,⟨id',hid',hat⟩ | ⟨hno,_⟩⟩:=Jk hE j ch hc
  ·rw [hid] at hid';cases hid'
   cases ch with
   | cells cs=>simp [Chunk.len] at hn
   | pub e t xs=>cases hl
   | hol e t xs i cs=>
    simp only [Chunk.ren] at hat
    cases hs:s.at id with
    | none=>rw [hs] at hat;cases hat
    | some c0=>
     rw [hs] at hat
     simp only [Option.map_some,Option.some.injEq] at hat
     cases c0 <;> simp only [Chunk.vw,reduceCtorEq,Chunk.hol.injEq] at hat
     obtain ⟨rfl,rfl,hxx,_⟩:=hat
     cases hxx
     simp only [St.ln,hs]
     exact hn
   | arr e t xs=>
    simp only [Chunk.ren] at hat
    cases hs:s.at id with
    | none=>rw [hs] at hat;cases hat
    | some c0=>
     rw [hs] at hat
     simp only [Option.map_some,Option.some.injEq] at hat
     cases c0 <;> simp only [Chunk.vw,reduceCtorEq,Chunk.arr.injEq] at hat
     obtain ⟨rfl,rfl,hxx⟩:=hat
     cases hxx
     simp only [St.ln,hs]
     exact hn
  ·rw [hid] at hno;cases hno
theorem env_fit (h:Sat G φ s a w) {ids:List Nat} {s1:St} (h1:Sat G φ s1 a w) (f:Fit G G' φ φ' s1 w ρ J)
  (hd:∀ i t x,(i,Pat.dat t x) ∈ J.env→i<a.tmps.size∧∀ im' φ' ln' nx',(∀ b,G.im s φ b→im' b)→(∀ id ∈ ids,∀ b cap,φ id=some (b,cap)→im' b)→(avOf t x).relR (CV.rel w im' φ' ln' nx') (a.tmps.getD i undef))
  (hr:rawsE ρ s1 J.env) (him:∀ b,G.im s φ b→G'.im J.st φ' b) (hids:∀ id ∈ ids,∀ b cap,φ id=some (b,cap)→G'.im J.st φ' b) :
  ∀ i v,lk J.st.env i=some v→i<a.tmps.size∧v.relR (CV.rel w (G'.im J.st φ') φ' J.st.ln J.st.nx) (a.tmps.getD i undef):=by
 intro i v hv
 simp only [Sh.st,lk_envSt] at hv
 cases hp:lk J.env i with
 | none=>rw [hp] at hv;cases hv
 | some p=>
  rw [hp] at hv
  simp only [Option.map_some,Option.some.injEq] at hv
  subst hv
  have hm:=Lq hp
  cases p with
  | dat t x=>
   obtain ⟨k1,k2⟩:=hd i t x hm
   exact ⟨k1,k2 _ _ _ _ him hids⟩
  | raw b cs=>exact raw_fit h1 f (raws_spec hr i b cs hm)
theorem Sat.weak (h:Sat G φ s a w) (hw:Weak ρ s J) (hρ:renB J.nx ρ []=true) (hp:protB G.e ρ=true) (he:G.e≤J.nx):∃ φ',Sat G φ' J.st a w:=by
 obtain ⟨ids,hk,hout,hd⟩:=dats_spec h _ _ hw
 obtain ⟨s1,⟨hr,hE⟩,h1,m3,m4,m5,m6,m7,m8,_⟩:=J8 ids _ h hk
 have hids:∀ id ∈ ids,∀ b cap,φ id=some (b,cap)→G.im s1 φ b:=fun id hid b cap hb=>m6 id hid b cap hb (hout id hid)
 let φ':Phi:=fun j=>if j<G.e then φ j else match lk ρ j with
  | some (some id)=>φ id
  | _=>none
 have q1:∀ j id,lk ρ j=some (some id)→φ' j=φ id:=fun j id hj=>by
  simp only [φ']
  by_cases hlt:j<G.e
  ·have:=protB_spec hp j _ hj hlt
   cases this
   rw [if_pos hlt]
  ·rw [if_neg hlt,hj]
 have q2:∀ j,lk ρ j=some none→φ' j=none:=fun j hj=>by
  simp only [φ']
  by_cases hlt:j<G.e
  ·cases protB_spec hp j _ hj hlt
  ·rw [if_neg hlt,hj]
 have him:∀ b,G.im s1 φ b→G.im J.st φ' b:=fun b hb=>⟨hb.1,fun ⟨j,c,cap,k1,k2,k3⟩=>by
  obtain ⟨id,c',e1,e2,e3,e4⟩:=J2 h1 hE q1 q2 k1 b cap k3
  exact hb.2 ⟨id,c',cap,e2,e3,e4⟩⟩
 have f:Fit G G φ φ' s1 w ρ J:=⟨q1,q2,hE,hρ,fun b _ hb=>him b hb⟩
 refine ⟨φ',h.df,fun i hi=>?_,he,fun i hi n hn=>?_,h.frame,env_fit h h1 f hd hr (fun b hb=>him b (m5 b hb)) (fun id hid b cap hb=>him b (hids id hid b cap hb)),fun j ch hj=>?_,fun j j' c c' b cap cap' k1 k2 l1 l2 p1 p2=>?_,fun j c b cap k1 l1 p1=>?_⟩
 ·simp only [φ'];rw [if_pos hi];exact h.prot i hi
 ·cases hc:lk ρ i with
  | none=>
   have:∃ ch,J.st.at i=some ch:=by
    cases hx:J.st.at i with
    | none=>simp [St.ln,hx] at hn
    | some ch=>exact ⟨ch,rfl⟩
   obtain ⟨ch,hch⟩:=this
   rw [Sh.at_st] at hch
   obtain ⟨_,⟨id,e1,_⟩ | ⟨e1,_⟩⟩:=Jk hE i ch hch <;> (rw [hc] at e1;cases e1)
  | some o=>
   have:=protB_spec hp i o hc hi
   subst this
   exact h1.lnp i hi n (ln_from hE hc hn)
 ·obtain ⟨g1,g2,g3,_⟩:=Kj.fit h1 f hj
  exact ⟨g1,g3⟩
 ·obtain ⟨id,c1,e1,e2,e3,e4⟩:=J2 h1 hE q1 q2 k1 b cap p1
  obtain ⟨id',c1',e1',e2',e3',e4'⟩:=J2 h1 hE q1 q2 k2 b cap' p2
  have:=h1.sep id id' c1 c1' b cap cap' e2 e2' e3 e3' e4 e4'
  subst this
  exact renB_inj hρ j j' id e1 e1'
 ·obtain ⟨id,c1,e1,e2,e3,e4⟩:=J2 h1 hE q1 q2 k1 b cap p1
  exact h1.own id c1 b cap e2 e3 e4
end
end Go.AM
