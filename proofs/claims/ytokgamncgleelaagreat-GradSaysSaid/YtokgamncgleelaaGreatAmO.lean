
import Derived.Test.YtokgamncgleelaaGreatAmN
set_option linter.unusedVariables false
set_option linter.unusedSimpArgs false
namespace Go.AM
section
variable {P:Program} {G:Ctx} {φ:Phi} {s:St} {a:Act} {w:World}
theorem enumA_lk:∀ (avs:List AV) (i j:Nat) (v:AV),lk (K4 i avs) j=some v→i≤j∧avs[j-i]?=some v
 | [],_,_,_,h=>by simp [K4] at h
 | x::r,i,j,v,h=>by
  simp only [K4,Gr] at h
  split at h
  ·rename_i e;subst e;cases h;exact ⟨Nat.le_refl _,by simp⟩
  ·rename_i e
   obtain ⟨h1,h2⟩:=enumA_lk r (i+1) j v h
   refine ⟨by omega,?_⟩
   rw [show j-i=(j-(i+1))+1 by omega,List.getElem?_cons_succ]
   exact h2
theorem enumP_lk:∀ (ps:List Pat) (i j:Nat) (p:Pat),ps[j]?=some p→lk (La i ps) (i+j)=some p
 | [],_,_,_,h=>by simp at h
 | x::r,i,0,p,h=>by simp at h;subst h;simp [La]
 | x::r,i,j+1,p,h=>by
  simp only [La,Gr]
  rw [if_neg (by omega),show i+(j+1)=(i+1)+j by omega]
  exact enumP_lk r (i+1) j p (by simpa using h)
theorem args_sat (h:Sat G φ s a w) {avs:List AV} {vs:List Value} (hv:All2 (fun x v=>AV.relR (CV.rel w (G.im s φ) φ s.ln s.nx) x v) avs vs) :
  Sat G φ { s with env:=K4 0 avs } ⟨⟨vs⟩,[]⟩ w:=by
 refine h.frame' rfl (fun i v hi=>?_)
 obtain ⟨_,h2⟩:=enumA_lk _ _ _ _ hi
 obtain ⟨u,h3,h4⟩:=hv.get _ _ h2
 simp only [Nat.sub_zero] at h3
 obtain ⟨hlt,he⟩:=List.getElem?_eq_some_iff.1 h3
 refine ⟨by simpa using hlt,?_⟩
 rw [show (Array.mk vs).getD i undef=u from by simp [Array.getD,hlt,he]]
 exact h4
theorem call_spec (h:Sat G φ s a w) {f:FuncId} {avs:List AV} {vs:List Value} {k:AV→St→List Nat→Prop} (hk:callK P f s avs k)
  (hv:All2 (fun x v=>AV.relR (CV.rel w (G.im s φ) φ s.ln s.nx) x v) avs vs) :
  Calls P f ⟨vs⟩ w (fun e w'=>∃ u,e = .returned u∧Done G φ s a w k u w'):=by
 obtain ⟨C,x,y,ρ,lend,hH,hF,hρl,hkeys,hd⟩:=hk
 have hρ:renB C.e ρ []=true:=by cases hb:renB C.e ρ [] <;> simp_all
 have hvl:vs.length=(C.args x).length:=by
  rw [hρ,Bool.true_and] at hρl
  rw [← hv.len]
  exact Nat.eq_of_beq_eq_true hρl
 simp only [St.use_eq] at hd
 have hA:=args_sat h hv
 obtain ⟨ids,hp,hout,hdat⟩:=dats_spec hA _ _ hd
 obtain ⟨s1,⟨hl,hwf,hlv,hr,hE,hk⟩,h1,m3,m4,m5,m6,m7,m8,m9⟩:=J8 _ _ hA hp
 let φc:Phi:=fun j=>match lk ρ j with
  | some (some id)=>φ id
  | _=>none
 let im':Nat→Prop:=fun b=>G.im s1 φ b∨(lend=true∧∃ id,id ∈ ids∧∃ cap,φ id=some (b,cap))
 have q1:∀ j id,lk ρ j=some (some id)→φc j=φ id:=fun j id hj=>by simp only [φc,hj]
 have q2:∀ j,lk ρ j=some none→φc j=none:=fun j hj=>by simp only [φc,hj]
 have hlive:∀ j id,lk ρ j=some (some id)→∃ c,s1.at id=some c∧c.live=true:=fun j id hj=>by
  obtain ⟨_,id',ch,e1,e2⟩:=keysE_spec hkeys j _ hj
  cases e1
  obtain ⟨hlv,⟨id'',e3,e4⟩ | ⟨e3,_⟩⟩:=Jk hE j ch e2
  ·rw [hj] at e3;cases e3
   cases hs:s1.at id with
   | none=>rw [hs] at e4;cases e4
   | some c0=>
    rw [hs] at e4
    simp only [Option.map_some,Option.some.injEq] at e4
    refine ⟨c0,rfl,?_⟩
    cases ch <;> cases c0 <;> simp only [Chunk.vw,Chunk.ren,reduceCtorEq] at e4 <;> first | rfl | cases hlv
  ·rw [hj] at e3;cases e3
 have hgl:GlOk w C.e φc:=⟨Ctx.glo h1.frame,fun b cs hb i cap hi e2=>by
  simp only [φc] at e2
  split at e2
  ·rename_i id hid
   obtain ⟨c,c1,c2⟩:=hlive i id hid
   exact Ctx.glo_no (G:=G) hb (h1.own id c b cap c1 c2 e2).2
  ·cases e2⟩
 have hlB:lend=true→(∀ p ∈ C.ret y,p.flat=true)∧(∀ p ∈ C.hout y,p.2.flat=true)∧∀ i ∈ ids,i ∉ imgs ρ:=fun e=>by
  have:=hl e
  simp only [lendB,Bool.and_eq_true] at this
  exact ⟨Jq this.1.1,Jq this.1.2,fun i hi=>memb_false (Jq this.2 i hi)⟩
 have him:∀ b,G.im s1 φ b→(C.ctx x w im' φc hgl).im (C.shIn x).st φc b:=fun b hb=>⟨.inl (.inl hb),fun ⟨j,c,cap,k1,k2,k3⟩=>by
  obtain ⟨id,c',e1,e2,e3,e4⟩:=J2 (J:=C.shIn x) h1 hE q1 q2 k1 b cap k3
  exact hb.2 ⟨id,c',cap,e2,e3,e4⟩⟩
 have fit:Fit G (C.ctx x w im' φc hgl) φ φc s1 w ρ (C.shIn x):=⟨q1,q2,hE,hρ,fun b _ hb=>him b hb⟩
 have hids:∀ id ∈ ids,∀ b cap,φ id=some (b,cap)→(C.ctx x w im' φc hgl).im (C.shIn x).st φc b:=fun id hid b cap hb=>by
  cases hle:lend with
  | false=>
   rw [hle] at m6
   exact him b (m6 id hid b cap hb (hout id hid))
  | true=>
   refine ⟨.inl (.inr ⟨hle,id,hid,cap,hb⟩),fun ⟨j,c,cap',k1,k2,k3⟩=>?_⟩
   obtain ⟨id',c',e1,e2,e3,e4⟩:=J2 (J:=C.shIn x) h1 hE q1 q2 k1 b cap' k3
   obtain ⟨e,t,xs,hat⟩:=hout id hid
   have hat1:s1.at id=some (.arr e t xs):=by
    rw [m8 id (by rw [hle];simp)];exact hat
   have:=h1.sep id id' _ c' b cap cap' hat1 e2 rfl e3 hb e4
   subst this
   exact (hlB hle).2.2 id hid (Jw e1)
 have hS:Sat (C.ctx x w im' φc hgl) φc (C.shIn x).st ⟨⟨vs⟩,[]⟩ w:=by
  refine ⟨rfl,fun _ _=>rfl,Nat.le_refl _,fun _ _ n hn=>hn,⟨rfl,rfl,rfl,Nat.le_refl _,fun _ _ _=>rfl⟩,env_fit (J:=C.shIn x) hA h1 fit hdat hr (fun b hb=>him b (m5 b hb)) hids,fun j ch hj=>?_,fun j j' c c' b cap cap' k1 k2 l1 l2 p1 p2=>?_,fun j c b cap k1 l1 p1=>?_⟩
  ·obtain ⟨g1,g2,g3,_⟩:=Kj.fit (J:=C.shIn x) h1 fit hj
   exact ⟨g1,g3⟩
  ·obtain ⟨id,c1,e1,e2,e3,e4⟩:=J2 (J:=C.shIn x) h1 hE q1 q2 k1 b cap p1
   obtain ⟨id',c1',e1',e2',e3',e4'⟩:=J2 (J:=C.shIn x) h1 hE q1 q2 k2 b cap' p2
   have:=h1.sep id id' c1 c1' b cap cap' e2 e2' e3 e3' e4 e4'
   subst this
   exact renB_inj hρ j j' id e1 e1'
  ·obtain ⟨id,c1,e1,e2,e3,e4⟩:=J2 (J:=C.shIn x) h1 hE q1 q2 k1 b cap p1
   exact ⟨(h1.own id c1 b cap e2 e3 e4).1,.inr ⟨j,cap,Kf hρ j _ e1,p1⟩⟩
 refine (hH x y hF w im' φc hgl vs hvl hS).mono ?_
 rintro e w' ⟨us,φ',rfl,hul,hS'⟩
 refine ⟨retV us,rfl,?_⟩
 let g:=gOut ρ s1.nx
 let φ2:Phi:=fun i=>if i<s1.nx then φ i else φ' (i-s1.nx)
 have id_lt:∀ j id,lk ρ j=some (some id)→id<s1.nx:=fun j id hj=>let ⟨c,h1',_⟩:=hlive j id hj;h1.at_lt h1'
 have g_in:∀ j id,lk ρ j=some (some id)→g j=id:=fun j id hj=>by simp only [g,gOut,hj]
 have g_new:∀ j,(∀ id,lk ρ j≠some (some id))→g j=s1.nx+j:=fun j hj=>by
  show gOut ρ s1.nx j=_
  unfold gOut
  split
  ·rename_i id hid;exact absurd hid (hj id)
  ·rfl
 have g_phi:∀ j,φ2 (g j)=φ' j∨(C.e≤j∧False)∨φ2 (g j)=φ' j:=fun j=>by
  by_cases hj:∃ id,lk ρ j=some (some id)
  ·obtain ⟨id,hj⟩:=hj
   left
   have hje:j<C.e:=Kf hρ j _ hj
   rw [g_in j id hj]
   simp only [φ2]
   rw [if_pos (id_lt j id hj),hS'.prot j hje]
   exact (q1 j id hj).symm
  ·left
   rw [g_new j (fun id h=>hj ⟨id,h⟩)]
   simp only [φ2]
   rw [if_neg (by omega)]
   congr 1;omega
 have g_phi:∀ j,φ2 (g j)=φ' j:=fun j=>by rcases g_phi j with h | ⟨_,h⟩ | h;exact h;exact h.elim;exact h
 have g_inj:∀ j j',g j=g j'→j=j':=fun j j' he=>by
  by_cases hj:∃ id,lk ρ j=some (some id) <;> by_cases hj':∃ id,lk ρ j'=some (some id)
  ·obtain ⟨id,hj⟩:=hj
   obtain ⟨id',hj'⟩:=hj'
   rw [g_in j id hj,g_in j' id' hj'] at he
   subst he
   exact renB_inj hρ j j' id hj hj'
  ·obtain ⟨id,hj⟩:=hj
   rw [g_in j id hj,g_new j' (fun id h=>hj' ⟨id,h⟩)] at he
   have:=id_lt j id hj;omega
  ·obtain ⟨id',hj'⟩:=hj'
   rw [g_in j' id' hj',g_new j (fun id h=>hj ⟨id,h⟩)] at he
   have:=id_lt j' id' hj';omega
  ·rw [g_new j (fun id h=>hj ⟨id,h⟩),g_new j' (fun id h=>hj' ⟨id,h⟩)] at he
   omega
 let s2:=afterS s.env s1 ρ C y
 have hat2:∀ i,(∃ j ch,(C.shOut y).st.at j=some ch∧g j=i∧s2.at i=some (ch.out g))∨((∀ j ch,(C.shOut y).st.at j=some ch→g j≠i)∧((i ∈ imgs ρ∧s2.at i=none)∨(i ∉ imgs ρ∧s2.at i=s1.at i))):=fun i=>by
  have hl2:s2.at i=(match lk (outsH g (C.hout y) (killH ρ s1.heap)) i with | some (some ch)=>some ch | _=>none):=rfl
  rcases lk_outsH g (C.hout y) (killH ρ s1.heap) i with ⟨j,ch,e1,e2,e3,e4⟩ | ⟨e1,e2⟩
  ·left
   refine ⟨j,ch,?_,e2,?_⟩
   ·rw [Sh.at_st];exact e4 (fun j j' _ _ he=>g_inj j j' he)
   ·rw [hl2,e3]
  ·right
   refine ⟨fun j ch hj=>e1 j ch (Lq (by rw [Sh.at_st] at hj;exact hj)),?_⟩
   rw [lk_killH] at e2
   by_cases him:i ∈ imgs ρ
   ·left
    rw [if_pos him] at e2
    exact ⟨him,by rw [hl2,e2]⟩
   ·right
    rw [if_neg him] at e2
    exact ⟨him,by rw [hl2,e2];rfl⟩
 have live2:∀ b,s2.liveAt φ2 b→(C.shOut y).st.liveAt φ' b∨∃ id c cap,id ∉ imgs ρ∧s1.at id=some c∧c.live=true∧φ id=some (b,cap):=by
  rintro b ⟨i,c,cap,k1,k2,k3⟩
  rcases hat2 i with ⟨j,ch,e1,e2,e3⟩ | ⟨_,⟨_,e2⟩ | ⟨e1,e2⟩⟩
  ·left
   rw [e3] at k1;cases k1
   refine ⟨j,ch,cap,e1,?_,by rw [← e2,g_phi] at k3;exact k3⟩
   cases ch <;> first | rfl | exact k2
  ·rw [e2] at k1;cases k1
  ·right
   rw [e2] at k1
   refine ⟨i,c,cap,e1,k1,k2,?_⟩
   simp only [φ2] at k3
   rwa [if_pos (h1.at_lt k1)] at k3
 have own':∀ b,(C.shOut y).st.liveAt φ' b→w.heap.size≤b∨∃ j id cap,lk ρ j=some (some id)∧φ id=some (b,cap):=by
  rintro b ⟨j,c,cap,k1,k2,k3⟩
  rcases (hS'.own j c b cap k1 k2 k3).2 with e | ⟨i,cap',e1,e2⟩
  ·exact .inl e
  ·right
   have e2:φc i=some (b,cap'):=e2
   simp only [φc] at e2
   split at e2
   ·rename_i id hid;exact ⟨i,id,cap',hid,e2⟩
   ·cases e2
 have mine':∀ b,(C.ctx x w im' φc hgl).mine b→∃ j id cap c,lk ρ j=some (some id)∧φ id=some (b,cap)∧s1.at id=some c∧c.live=true:=by
  rintro b ⟨i,cap',e1,e2⟩
  have e2:φc i=some (b,cap'):=e2
  simp only [φc] at e2
  split at e2
  ·rename_i id hid
   obtain ⟨c,c1,c2⟩:=hlive i id hid
   exact ⟨i,id,cap',c,hid,e2,c1,c2⟩
  ·cases e2
 have same:∀ b,b<w.heap.size→(∀ id,id ∈ imgs ρ→∀ cap,φ id≠some (b,cap))→w'.heap[b]?=w.heap[b]?:=fun b hb hne=>by
  refine hS'.frame.block b hb (fun hm=>?_)
  obtain ⟨j,id,cap,c,e1,e2,_⟩:=mine' b hm
  exact hne id (Jw e1) cap e2
 have nolive:∀ b,G.im s1 φ b→∀ id,id ∈ imgs ρ→∀ cap,φ id≠some (b,cap):=fun b hb id hid cap e=>by
  obtain ⟨j,_,hj⟩:=mem_imgs hkeys id hid
  obtain ⟨c,c1,c2⟩:=hlive j id hj
  exact hb.2 ⟨id,c,cap,c1,c2,e⟩
 have im2:∀ b,G.im s1 φ b→(w.heap.size≤b→¬(C.shOut y).st.liveAt φ' b)→G.im s2 φ2 b:=fun b hb hfr=>by
  refine ⟨hb.1,fun hl=>?_⟩
  rcases live2 b hl with hl | ⟨id,c,cap,_,e2,e3,e4⟩
  ·rcases own' b hl with e | ⟨j,id,cap,e1,e2⟩
   ·exact hfr e hl
   ·exact nolive b hb id (Jw e1) cap e2
  ·exact hb.2 ⟨id,c,cap,e2,e3,e4⟩
 let sA:St:={ s1 with env:=s.env }
 have hx0:Ext G s sA φ φ w w:=⟨by show s.nx≤s1.nx;rw [m4];exact Nat.le_refl _,fun _ _=>rfl,fun i hi n hn=>m7.ln i hi n hn,fun b hb hlt=>m7.kept b hb hlt⟩
 have hx:Ext G sA s2 φ φ2 w w':=by
  refine ⟨Nat.le_add_right _ _,fun i hi=>by simp only [φ2];exact if_pos hi,fun i hi n hn=>?_,fun b hb hlt=>⟨im2 b hb (fun hle _=>absurd hlt (by omega)),same b hlt (nolive b hb)⟩⟩
  rcases hat2 i with ⟨j,ch,e1,e2,e3⟩ | ⟨_,⟨_,e2⟩ | ⟨e1,e2⟩⟩
  ·by_cases hj:∃ id,lk ρ j=some (some id)
   ·obtain ⟨id,hj⟩:=hj
    rw [g_in j id hj] at e2
    subst e2
    have hln:(C.shOut y).st.ln j=some n:=by
     simp only [St.ln,e3] at hn
     simp only [St.ln,e1]
     cases ch <;> exact hn
    have hlj:=hS'.lnp j (Kf hρ j _ hj) n hln
    exact ln_from (J:=C.shIn x) hE hj hlj
   ·rw [g_new j (fun id h=>hj ⟨id,h⟩)] at e2
    have:i<s1.nx:=hi
    omega
  ·simp only [St.ln,e2] at hn;cases hn
  ·simp only [St.ln,e2] at hn;exact hn
 have hxx:Ext G s s2 φ φ2 w w':=⟨Nat.le_trans hx0.nx hx.nx,fun i hi=>hx.phi i (Nat.lt_of_lt_of_le hi hx0.nx),fun i hi n hn=>hx0.ln i hi n (hx.ln i (Nat.lt_of_lt_of_le hi hx0.nx) n hn),
  fun b hb hlt=>hx.kept b (hx0.kept b hb hlt).1 hlt⟩
 have hback:Back G (C.ctx x w im' φc hgl) φ2 φ' s2 (C.shOut y).st w' g lend:=by
  refine ⟨fun j _=>g_phi j,fun j hj=>?_,fun j hj n hn=>?_,fun hle b hb hib=>?_⟩
  ·by_cases hjj:∃ id,lk ρ j=some (some id)
   ·obtain ⟨id,hjj⟩:=hjj
    rw [g_in j id hjj]
    exact Nat.lt_of_lt_of_le (id_lt j id hjj) (Nat.le_add_right _ _)
   ·rw [g_new j (fun id h=>hjj ⟨id,h⟩)]
    exact Nat.add_lt_add_left hj _
  ·rcases hat2 (g j) with ⟨j',ch,e1,e2,e3⟩ | ⟨_,⟨_,e2⟩ | ⟨e1,e2⟩⟩
   ·have:=g_inj _ _ e2
    subst this
    simp only [St.ln,e3] at hn
    simp only [St.ln,e1]
    cases ch <;> exact hn
   ·simp only [St.ln,e2] at hn;cases hn
   ·by_cases hjj:∃ id,lk ρ j=some (some id)
    ·obtain ⟨id,hjj⟩:=hjj
     rw [g_in j id hjj] at e1
     exact absurd (Jw hjj) e1
    ·simp only [St.ln,e2] at hn
     rw [g_new j (fun id h=>hjj ⟨id,h⟩)] at hn
     cases hc:s1.at (s1.nx+j) with
     | none=>rw [hc] at hn;cases hn
     | some c=>have:=h1.at_lt hc;omega
  ·obtain ⟨hb1,hb2⟩:=hib
   have hfirst:G.im0 b∨G.w0.heap.size≤b∨G.mine b:=by
    rcases hb1 with (hb1 | ⟨e,_⟩) | hb1 | hb1
    ·exact hb1.1
    ·rw [hle] at e;cases e
    ·exact .inr (.inl (Nat.le_trans h1.frame.size hb1))
    ·obtain ⟨j,id,cap,c,e1,e2,e3,e4⟩:=mine' b hb1
     exact .inr (h1.own id c b cap e3 e4 e2).2
   refine ⟨hfirst,fun hl=>?_⟩
   rcases live2 b hl with hl | ⟨id,c,cap,e1,e2,e3,e4⟩
   ·exact hb2 hl
   ·rcases hb1 with (hb1 | ⟨e,_⟩) | hb1 | hb1
    ·exact hb1.2 ⟨id,c,cap,e2,e3,e4⟩
    ·rw [hle] at e;cases e
    ·have:=(h1.own id c b cap e2 e3 e4).1
     exact absurd this (Nat.not_lt.2 hb1)
    ·obtain ⟨j,id',cap',c',f1,f2,f3,f4⟩:=mine' b hb1
     have:=h1.sep id id' c c' b cap cap' e2 f3 e3 f4 e4 f2
     subst this
     exact e1 (Jw f1)
 have hchunk:∀ j ch,(C.shOut y).st.at j=some ch→Kj w' (G.im s2 φ2) φ2 s2.ln s2.nx (g j) (ch.out g):=fun j ch hj=>by
  have hc:=(hS'.heap j ch hj).2
  have hfl:lend=true→ch.flat=true:=fun e=>by
   rw [Sh.at_st] at hj
   exact (hlB e).2.1 (j,ch) (Lq hj)
  have hrel:∀ (t:Ty) (z:t.D) (ds:List Value),(lend=true→t.flat=true)→t.rel w' ((C.ctx x w im' φc hgl).im (C.shOut y).st φ') z ds→t.rel w' (G.im s2 φ2) z ds:=fun t z ds hf hz=>by
   cases hle:lend with
   | true=>exact Ty.flat_rel t z ds (hf hle) hz
   | false=>exact Ty.rel_mono (fun b hb hlt=>⟨hback.im hle b hlt hb,rfl⟩) t z ds hz
  cases ch with
  | cells cs=>
   obtain ⟨b,cap,e1,vs',T,e2,e3⟩:=hc
   exact ⟨b,cap,(g_phi j).trans e1,vs',T,e2,All2.back hback (fun e=>Jq (hfl e)) e3⟩
  | arr e t xs=>
   rcases hc with ⟨e1,e2⟩ | ⟨b,cap,e1,e2,e2',c,e3,e4,e5⟩
   ·exact .inl ⟨(g_phi j).trans e1,e2⟩
   ·refine .inr ⟨b,cap,(g_phi j).trans e1,e2,e2',c,e3,e4,fun i hi=>?_⟩
    obtain ⟨ds,k1,k2⟩:=e5 i hi
    exact ⟨ds,hrel t _ ds hfl k1,k2⟩
  | hol e t xs i cs=>
   have hfl':lend=true→t.flat=true∧Me CV.flat cs=true:=fun e=>by
    have:=hfl e
    simpa only [Chunk.flat,Bool.and_eq_true] using this
   rcases hc with ⟨e1,e2⟩ | ⟨b,cap,e1,e2,e2',c,e3,e4,e5,e6⟩
   ·exact .inl ⟨(g_phi j).trans e1,e2⟩
   ·refine .inr ⟨b,cap,(g_phi j).trans e1,e2,e2',c,e3,e4,fun k hk hki=>?_,fun hi=>?_⟩
    ·obtain ⟨ds,k1,k2⟩:=e5 k hk hki
     exact ⟨ds,hrel t _ ds (fun e=>(hfl' e).1) k1,k2⟩
    ·obtain ⟨ds,k1,k2⟩:=e6 hi
     exact ⟨ds,All2.back hback (fun e=>Jq (hfl' e).2) k1,k2⟩
  | pub e t xs=>
   rw [Sh.at_st] at hj
   exact absurd (Jq hlv _ (Lq hj)) (by simp [Chunk.live])
 have hsat:Sat G φ2 s2 a w':=by
  refine ⟨h.df,fun i hi=>?_,Nat.le_trans h.e_nx hxx.nx,fun i hi n hn=>h.lnp i hi n (hxx.ln i (Nat.lt_of_lt_of_le hi h.e_nx) n hn),
   ⟨hS'.frame.os.trans h.frame.os,hS'.frame.tape.trans h.frame.tape,hS'.frame.output.trans h.frame.output,Nat.le_trans h.frame.size hS'.frame.size,fun b hb hm=>?_⟩,
   fun i v hi=>⟨(h.env i v hi).1,AV.rel_ext hxx (h.env i v hi).2⟩,fun i ch hi=>?_,fun i i' c c' b cap cap' k1 k2 l1 l2 p1 p2=>?_,fun i c b cap k1 l1 p1=>?_⟩
  ·rw [hxx.phi i (Nat.lt_of_lt_of_le hi h.e_nx)];exact h.prot i hi
  ·refine (same b (Nat.lt_of_lt_of_le hb h.frame.size) (fun id hid cap e=>?_)).trans (h.frame.block b hb hm)
   obtain ⟨j,_,hj⟩:=mem_imgs hkeys id hid
   obtain ⟨c,c1,c2⟩:=hlive j id hj
   rcases (h1.own id c b cap c1 c2 e).2 with k | k
   ·omega
   ·exact hm k
  ·rcases hat2 i with ⟨j,ch',e1,e2,e3⟩ | ⟨_,⟨_,e2⟩ | ⟨e1,e2⟩⟩
   ·rw [e3] at hi;cases hi
    subst e2
    exact ⟨hback.nx j (hS'.heap j ch' e1).1,hchunk j ch' e1⟩
   ·rw [e2] at hi;cases hi
   ·rw [e2] at hi
    obtain ⟨k1,k2⟩:=h1.heap i ch hi
    refine ⟨Nat.lt_of_lt_of_le k1 (Nat.le_add_right _ _),Kj.ext (s:=sA) hx k1 (fun hlv b cap hb=>same b (h1.own i ch b cap hi hlv hb).1 (fun id hid cap' e=>?_)) k2⟩
    obtain ⟨j,_,hj⟩:=mem_imgs hkeys id hid
    obtain ⟨c,c1,c2⟩:=hlive j id hj
    have:=h1.sep i id ch c b cap cap' hi c1 hlv c2 hb e
    subst this
    exact e1 hid
  ·have key:∀ i c b cap,s2.at i=some c→c.live=true→φ2 i=some (b,cap)→(∃ j ch,(C.shOut y).st.at j=some ch∧ch.live=true∧g j=i∧φ' j=some (b,cap))∨(i ∉ imgs ρ∧s1.at i=some c∧φ i=some (b,cap)):=fun i c b cap k1 l1 p1=>by
    rcases hat2 i with ⟨j,ch',e1,e2,e3⟩ | ⟨_,⟨_,e2⟩ | ⟨e1,e2⟩⟩
    ·left
     rw [e3] at k1;cases k1
     refine ⟨j,ch',e1,by cases ch' <;> first | rfl | exact l1,e2,by rw [← e2,g_phi] at p1;exact p1⟩
    ·rw [e2] at k1;cases k1
    ·right
     rw [e2] at k1
     refine ⟨e1,k1,?_⟩
     simp only [φ2] at p1
     rwa [if_pos (h1.at_lt k1)] at p1
   have cross:∀ j ch i c b cap cap',(C.shOut y).st.at j=some ch→ch.live=true→φ' j=some (b,cap)→i ∉ imgs ρ→s1.at i=some c→c.live=true→φ i=some (b,cap')→False:=fun j ch i c b cap cap' a1 a2 a3 b1 b2 b3 b4=>by
    rcases own' b ⟨j,ch,cap,a1,a2,a3⟩ with e | ⟨j',id,cap'',e1,e2⟩
    ·have:=(h1.own i c b cap' b2 b3 b4).1;omega
    ·obtain ⟨c',c1,c2⟩:=hlive j' id e1
     have:=h1.sep i id c c' b cap' cap'' b2 c1 b3 c2 b4 e2
     subst this
     exact b1 (Jw e1)
   rcases key i c b cap k1 l1 p1 with ⟨j,ch,a1,a2,a3,a4⟩ | ⟨a1,a2,a3⟩ <;> rcases key i' c' b cap' k2 l2 p2 with ⟨j',ch',b1,b2,b3,b4⟩ | ⟨b1,b2,b3⟩
   ·rw [← a3,← b3,hS'.sep j j' ch ch' b cap cap' a1 b1 a2 b2 a4 b4]
   ·exact (cross j ch i' c' b cap cap' a1 a2 a4 b1 b2 l2 b3).elim
   ·exact (cross j' ch' i c b cap' cap b1 b2 b4 a1 a2 l1 a3).elim
   ·exact h1.sep i i' c c' b cap cap' a2 b2 l1 l2 a3 b3
  ·rcases live2 b ⟨i,c,cap,k1,l1,p1⟩ with hl | ⟨id,c',cap',e1,e2,e3,e4⟩
   ·obtain ⟨j,ch,cap',a1,a2,a3⟩:=hl
    refine ⟨(hS'.own j ch b cap' a1 a2 a3).1,?_⟩
    rcases own' b ⟨j,ch,cap',a1,a2,a3⟩ with e | ⟨j',id,cap'',f1,f2⟩
    ·exact .inl (Nat.le_trans h.frame.size e)
    ·obtain ⟨c2,c3,c4⟩:=hlive j' id f1
     exact (h1.own id c2 b cap'' c3 c4 f2).2
   ·obtain ⟨o1,o2⟩:=h1.own id c' b cap' e2 e3 e4
    exact ⟨Nat.lt_of_lt_of_le o1 hS'.frame.size,o2⟩
 refine ⟨_,s2,φ2,imgs ρ,hk,hsat,?_,⟨hxx.kept,fun id hid=>?_,hxx.nx,hxx.phi,hS'.frame.size,same⟩,rfl⟩
 rotate_left
 ·obtain ⟨j,_,hj⟩:=mem_imgs hkeys id hid
  obtain ⟨c,c1,c2⟩:=hlive j id hj
  exact ⟨c,m9 id c c1 c2,c2⟩
 have hrv:All2 (RV.rel (CV.rel w' (G.im s2 φ2) φ2 s2.ln s2.nx)) ((C.ret y).map (Pat.rv g)) us:=by
  refine All2.of_get (by rw [List.length_map,hul]) (fun j p u hp hu=>?_)
  rw [List.getElem?_map] at hp
  cases hq:(C.ret y)[j]? with
  | none=>rw [hq] at hp;cases hp
  | some q=>
   rw [hq] at hp
   cases hp
   have hm:q ∈ C.ret y:=List.mem_of_getElem? hq
   have he:=enumP_lk (C.ret y) 0 j q hq
   rw [Nat.zero_add] at he
   have he2:lk (C.shOut y).st.env j=some q.av:=by
    simp only [Sh.st,Con.shOut,lk_envSt,he,Option.map_some]
   obtain ⟨hlt,hav⟩:=hS'.env j q.av he2
   have:(Array.mk us).getD j undef=u:=by
    obtain ⟨hj,e⟩:=List.getElem?_eq_some_iff.1 hu
    simp [Array.getD,hj,e]
   rw [this] at hav
   rcases Pat.back hback (fun e=>(hlB e).1 q hm) hav with hr | ⟨cs,rfl,hc⟩
   ·exact hr
   ·have:=Jq hwf _ hm
    match cs,hc,this with
    | [],_,h=>cases h
    | [_],hc,_=>exact absurd rfl hc
    | _::_::_,_,h=>cases h
 have hfin:∀ (ps:List Pat) (us:List Value),All2 (RV.rel (CV.rel w' (G.im s2 φ2) φ2 s2.ln s2.nx)) (ps.map (Pat.rv g)) us→(retA g ps).relR (CV.rel w' (G.im s2 φ2) φ2 s2.ln s2.nx) (retV us):=by
  intro ps us h
  match ps,us,h with
  | [p],[u],.cons h1 .nil=>exact RV.toAV h1
  | [],[],h=>exact ⟨[],rfl,h⟩
  | p::q::r,u::u'::us,h=>exact ⟨_,rfl,h⟩
 exact hfin _ _ hrv
end
end Go.AM
