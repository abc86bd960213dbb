
import Derived.Test.YtokgamncgleelaaGreatAmM
set_option linter.unusedVariables false
set_option linter.unusedSimpArgs false
namespace Go.AM
structure Con where
 X:Type
 Y:Type
 e:Nat
 args:X→List Pat
 hin:X→List (Nat×Chunk)
 F:X→Option Y
 ret:Y→List Pat
 hout:Y→List (Nat×Chunk)
 nout:Nat
def La:Nat→List Pat→List (Nat×Pat)
 | _,[]=>[]
 | i,p::r=>(i,p)::La (i+1) r
def K4:Nat→List AV→List (Nat×AV)
 | _,[]=>[]
 | i,p::r=>(i,p)::K4 (i+1) r
def Con.shIn (C:Con) (x:C.X):Sh:=⟨La 0 (C.args x),C.hin x,C.e⟩
def Con.shOut (C:Con) (y:C.Y):Sh:=⟨La 0 (C.ret y),C.hout y,C.nout⟩
def Con.ctx (C:Con) (x:C.X) (w:World) (im:Nat→Prop) (φ:Phi) (hg:GlOk w C.e φ):Ctx:=⟨w,im,C.e,φ,(C.shIn x).st.ln,hg⟩
def retV:List Value→Value
 | [v]=>v
 | us=>.tuple ⟨us⟩
def Con.Holds (P:Program) (f:FuncId) (C:Con):Prop:=
 ∀ x y,C.F x=some y→∀ (w:World) (im:Nat→Prop) (φ:Phi) (hg:GlOk w C.e φ) (vs:List Value),vs.length=(C.args x).length→Sat (C.ctx x w im φ hg) φ (C.shIn x).st ⟨⟨vs⟩,[]⟩ w→
  Calls P f ⟨vs⟩ w (fun e w'=>∃ us φ',e = .returned (retV us)∧us.length=(C.ret y).length∧Sat (C.ctx x w im φ hg) φ' (C.shOut y).st ⟨⟨us⟩,[]⟩ w')
def Ty.flat:Ty→Bool
 | .sl _=>false
 | .p a b=>a.flat&&b.flat
 | _=>true
def CV.flat:CV→Bool
 | .d t _=>t.flat
 | .ip _ _ _=>false
 | _=>true
def Me {α:Type} (p:α→Bool):List α→Bool
 | []=>true
 | x::r=>p x&&Me p r
def Pat.flat:Pat→Bool
 | .dat t _=>t.flat
 | .raw _ cs=>Me CV.flat cs
def Chunk.flat:Chunk→Bool
 | .cells cs=>Me CV.flat cs
 | .hol _ t _ _ cs=>t.flat&&Me CV.flat cs
 | .arr _ t _=>t.flat
 | .pub _ t _=>t.flat
def CV.out (g:Nat→Nat):CV→CV
 | .osl j=>.osl (g j)
 | .ptr j off=>.ptr (g j) off
 | .ep j sz i off=>.ep (g j) sz i off
 | .wn j l n=>.wn (g j) l n
 | .d t x=>.d t x
 | .ip t x off=>.ip t x off
 | .c v=>.c v
 | .emp=>.emp
def Chunk.out (g:Nat→Nat):Chunk→Chunk
 | .cells cs=>.cells (cs.map (CV.out g))
 | .hol e t xs i cs=>.hol e t xs i (cs.map (CV.out g))
 | .arr e t xs=>.arr e t xs
 | .pub e t xs=>.pub e t xs
def gOut (ρ:Ren) (nx j:Nat):Nat:=match lk ρ j with
 | some (some id)=>id
 | _=>nx+j
def outsH (g:Nat→Nat):List (Nat×Chunk)→List (Nat×Option Chunk)→List (Nat×Option Chunk)
 | [],r=>r
 | (j,ch)::l,r=>(g j,some (ch.out g))::outsH g l r
def killH:Ren→List (Nat×Option Chunk)→List (Nat×Option Chunk)
 | [],r=>r
 | (_,some id)::l,r=>(id,none)::killH l r
 | (_,none)::l,r=>killH l r
def imgs:Ren→List Nat
 | []=>[]
 | (_,some id)::l=>id::imgs l
 | (_,none)::l=>imgs l
def Pat.rv (g:Nat→Nat):Pat→Bool×List CV
 | .dat t x=>match t.isAgg with
  | true=>(true,Jc t x)
  | false=>(false,[.d t x])
 | .raw b cs=>(b,cs.map (CV.out g))
def retA (g:Nat→Nat):List Pat→AV
 | [p]=>toAV (p.rv g)
 | ps=>.tup (ps.map (Pat.rv g))
def afterS (env:List (Nat×AV)) (s1:St) (ρ:Ren) (C:Con) (y:C.Y):St:=
 ⟨env,outsH (gOut ρ s1.nx) (C.hout y) (killH ρ s1.heap),s1.nx+C.nout⟩
def keysE:Nat→Ren→List (Nat×Chunk)→Bool
 | _,[],[]=>true
 | lo,(j,some _)::r,(i,_)::l=>Nat.beq j i&&Nat.ble lo j&&keysE (j+1) r l
 | _,_,_=>false
def lendB (C:Con) (y:C.Y) (ids:List Nat) (ρ:Ren):Bool:=
 Me Pat.flat (C.ret y)&&Me (fun p:Nat×Chunk=>p.2.flat) (C.hout y)&&Me (fun i=>!memb i (imgs ρ)) ids
def Pat.wf:Pat→Bool
 | .raw false [_]=>true
 | .raw false _=>false
 | _=>true
def callK (P:Program) (f:FuncId) (s:St) (avs:List AV) (k:AV→St→List Nat→Prop):Prop:=
 ∃ (C:Con) (x:C.X) (y:C.Y) (ρ:Ren) (lend:Bool),C.Holds P f∧C.F x=some y∧(renB C.e ρ []&&Nat.beq avs.length (C.args x).length)=true∧keysE 0 ρ (C.hin x)=true∧
  s.use fun e0 h0 n0=>datsK ⟨K4 0 avs,h0,n0⟩ (La 0 (C.args x)) (fun ids=>pubK (match lend with | true=>[] | false=>ids) ⟨K4 0 avs,h0,n0⟩ (fun s1=>
   (lend=true→lendB C y ids ρ=true)∧Me Pat.wf (C.ret y)=true∧Me (fun p:Nat×Chunk=>p.2.live) (C.hout y)=true∧rawsE ρ s1 (La 0 (C.args x))∧heapE ρ s1 (C.hin x)∧
   s1.use fun e1 h1 n1=>k (retA (gOut ρ n1) (C.ret y)) ⟨e0,outsH (gOut ρ n1) (C.hout y) (killH ρ h1),n1+C.nout⟩ (imgs ρ)))
section
variable {P:Program} {G:Ctx} {φ:Phi} {s:St} {a:Act} {w:World}
theorem Ty.flat_rel {w:World} {im im':Nat→Prop}:∀ (t:Ty) (x:t.D) (cs:List Value),t.flat=true→t.rel w im x cs→t.rel w im' x cs
 | .int _,_,_,_,h=>h
 | .bool,_,_,_,h=>h
 | .str,_,_,_,h=>h
 | .u,_,_,_,h=>h
 | .p a b,x,_,hf,⟨c1,c2,e,h1,h2⟩=>by
  simp only [Ty.flat,Bool.and_eq_true] at hf
  exact ⟨c1,c2,e,Ty.flat_rel a x.1 c1 hf.1 h1,Ty.flat_rel b x.2 c2 hf.2 h2⟩
 | .sl _,_,_,hf,_=>by cases hf
theorem lk_outsH (g:Nat→Nat):∀ (l:List (Nat×Chunk)) (r:List (Nat×Option Chunk)) (i:Nat),
  (∃ j ch,(j,ch) ∈ l∧g j=i∧lk (outsH g l r) i=some (some (ch.out g))∧((∀ j j',(∃ c,(j,c) ∈ l)→(∃ c,(j',c) ∈ l)→g j=g j'→j=j')→lk l j=some ch))∨
  ((∀ j ch,(j,ch) ∈ l→g j≠i)∧lk (outsH g l r) i=lk r i)
 | [],r,i=>.inr ⟨fun _ _ h=>by simp at h,rfl⟩
 | (j,ch)::l,r,i=>by
  simp only [outsH,Gr]
  by_cases h:g j=i
  ·rw [if_pos h]
   exact .inl ⟨j,ch,by simp,h,rfl,fun _=>by simp [Gr]⟩
  ·rw [if_neg h]
   rcases lk_outsH g l r i with ⟨j',ch',h1,h2,h3,h4⟩ | ⟨h1,h2⟩
   ·refine .inl ⟨j',ch',by simp [h1],h2,h3,fun hinj=>?_⟩
    have hne:j≠j':=fun e=>h (by rw [e];exact h2)
    rw [if_neg hne]
    exact h4 (fun a b ⟨c,ha⟩ ⟨d,hb⟩=>hinj a b ⟨c,by simp [ha]⟩ ⟨d,by simp [hb]⟩)
   ·refine .inr ⟨fun j' ch' hm=>?_,h2⟩
    rcases List.mem_cons.1 hm with e | hm
    ·cases e;exact h
    ·exact h1 j' ch' hm
theorem lk_killH:∀ (ρ:Ren) (r:List (Nat×Option Chunk)) (i:Nat),lk (killH ρ r) i=if i ∈ imgs ρ then some none else lk r i
 | [],r,i=>by simp [killH,imgs]
 | (j,some id)::l,r,i=>by
  simp only [killH,Gr,imgs,List.mem_cons,lk_killH l r i]
  by_cases h:id=i
  ·simp [h]
  ·simp [h,Ne.symm h]
 | (j,none)::l,r,i=>by simp only [killH,imgs];exact lk_killH l r i
theorem keysE_spec:∀ {ρ:Ren} {l:List (Nat×Chunk)} {lo:Nat},keysE lo ρ l=true→∀ j o,lk ρ j=some o→lo≤j∧∃ id ch,o=some id∧lk l j=some ch
 | [],_,_,_,j,o,h=>by simp at h
 | (j',none)::r,l,lo,h,_,_,_=>by cases l <;> simp [keysE] at h
 | (j',some id)::r,[],lo,h,_,_,_=>by simp [keysE] at h
 | (j',some id)::r,(i,ch)::l,lo,h,j,o,hj=>by
  simp only [keysE,Bool.and_eq_true] at h
  have e:=Nat.eq_of_beq_eq_true h.1.1
  have hlo:=Nat.le_of_ble_eq_true h.1.2
  subst e
  rw [Gr] at hj
  split at hj
  ·rename_i e;subst e;cases hj;exact ⟨hlo,id,ch,rfl,by simp⟩
  ·rename_i e
   obtain ⟨h0,id',ch',h1,h2⟩:=keysE_spec h.2 j o hj
   exact ⟨by omega,id',ch',h1,by rw [Gr,if_neg e];exact h2⟩
theorem mem_imgs:∀ {ρ:Ren} {l:List (Nat×Chunk)} {lo:Nat},keysE lo ρ l=true→∀ id,id ∈ imgs ρ→∃ j,lo≤j∧lk ρ j=some (some id)
 | [],_,_,_,id,h=>by simp [imgs] at h
 | (j',none)::r,l,lo,h,_,_=>by cases l <;> simp [keysE] at h
 | (j',some i)::r,[],lo,h,_,_=>by simp [keysE] at h
 | (j',some i)::r,(i',ch)::l,lo,h,id,hm=>by
  simp only [keysE,Bool.and_eq_true] at h
  have hlo:=Nat.le_of_ble_eq_true h.1.2
  simp only [imgs,List.mem_cons] at hm
  rcases hm with rfl | hm
  ·exact ⟨j',hlo,by simp⟩
  ·obtain ⟨j,h1,h2⟩:=mem_imgs h.2 id hm
   exact ⟨j,by omega,by rw [Gr,if_neg (by omega)];exact h2⟩
theorem Jw:∀ {ρ:Ren} {j id:Nat},lk ρ j=some (some id)→id ∈ imgs ρ
 | [],_,_,h=>by simp at h
 | (j',some i)::r,j,id,h=>by
  rw [Gr] at h
  split at h
  ·cases h;simp [imgs]
  ·simp [imgs,Jw h]
 | (j',none)::r,j,id,h=>by
  rw [Gr] at h
  split at h
  ·cases h
  ·simpa [imgs] using Jw h
structure Back (G G':Ctx) (φ2 φ':Phi) (s2 so:St) (w':World) (g:Nat→Nat) (lend:Bool):Prop where
 phi:∀ j,j<so.nx→φ2 (g j)=φ' j
 nx:∀ j,j<so.nx→g j<s2.nx
 ln:∀ j,j<so.nx→∀ n,s2.ln (g j)=some n→so.ln j=some n
 im:lend=false→∀ b,b<w'.heap.size→G'.im so φ' b→G.im s2 φ2 b
theorem CV.back {G G':Ctx} {φ2 φ':Phi} {s2 so:St} {w':World} {g:Nat→Nat} {lend:Bool} (f:Back G G' φ2 φ' s2 so w' g lend) {y:CV} {v:Value}
  (hf:lend=true→y.flat=true) (hy:CV.rel w' (G'.im so φ') φ' so.ln so.nx y v):CV.rel w' (G.im s2 φ2) φ2 s2.ln s2.nx (y.out g) v:=by
 cases y with
 | d t x=>
  cases lend with
  | true=>exact Ty.flat_rel t x [v] (hf rfl) hy
  | false=>exact Ty.rel_mono (fun b hb hlt=>⟨f.im rfl b hlt hb,rfl⟩) t x [v] hy
 | osl j=>
  obtain ⟨h1,h2,h3⟩:=hy
  refine ⟨f.nx j h1,h2,fun n hn=>?_⟩
  rw [f.phi j h1]
  exact h3 n (f.ln j h1 n hn)
 | ptr j off=>
  obtain ⟨h1,b,cap,h2,h3⟩:=hy
  exact ⟨f.nx j h1,b,cap,(f.phi j h1).trans h2,h3⟩
 | wn j lo hi=>
  obtain ⟨h1,h2,h3⟩:=hy
  refine ⟨f.nx j h1,h2,fun n hn=>?_⟩
  rw [f.phi j h1]
  exact h3 n (f.ln j h1 n hn)
 | ep j sz i off=>
  obtain ⟨h1,⟨b,cap,h2,h3⟩,h4⟩:=hy
  exact ⟨f.nx j h1,⟨b,cap,(f.phi j h1).trans h2,h3⟩,fun n hn=>h4 n (f.ln j h1 n hn)⟩
 | ip t x off=>
  cases lend with
  | true=>cases hf rfl
  | false=>
   obtain ⟨b,o,c,T,z,ds,h1,h2,h3,h4,h5⟩:=hy
   exact ⟨b,o,c,T,z,ds,h1,f.im rfl b (Jv h3) h2,h3,Ty.rel_mono (fun b hb hlt=>⟨f.im rfl b hlt hb,rfl⟩) t x ds h4,h5⟩
 | c v'=>exact hy
 | emp=>exact hy
theorem Jq {α:Type} {p:α→Bool}:∀ {l:List α},Me p l=true→∀ x ∈ l,p x=true
 | [],_,x,h=>by simp at h
 | y::l,h,x,hm=>by
  simp only [Me,Bool.and_eq_true] at h
  rcases List.mem_cons.1 hm with rfl | hm
  ·exact h.1
  ·exact Jq h.2 x hm
theorem All2.back {G G':Ctx} {φ2 φ':Phi} {s2 so:St} {w':World} {g:Nat→Nat} {lend:Bool} (f:Back G G' φ2 φ' s2 so w' g lend):∀ {cs:List CV} {vs:List Value},
  (lend=true→∀ x ∈ cs,x.flat=true)→All2 (CV.rel w' (G'.im so φ') φ' so.ln so.nx) cs vs→All2 (CV.rel w' (G.im s2 φ2) φ2 s2.ln s2.nx) (cs.map (CV.out g)) vs
 | _,_,_,.nil=>.nil
 | _,_,hf,.cons h1 h2=>.cons (CV.back f (fun e=>hf e _ (by simp)) h1) (All2.back f (fun e x hx=>hf e x (by simp [hx])) h2)
theorem explode_flat:∀ (t:Ty) (x:t.D),t.flat=true→∀ y ∈ Jc t x,y.flat=true
 | .int _,_,_,y,h=>by simp [Jc] at h;subst h;rfl
 | .bool,_,_,y,h=>by simp [Jc] at h;subst h;rfl
 | .str,_,_,y,h=>by simp [Jc] at h;subst h;rfl
 | .u,_,_,y,h=>by simp [Jc] at h
 | .sl _,_,hf,_,_=>by cases hf
 | .p a b,x,hf,y,h=>by
  simp only [Ty.flat,Bool.and_eq_true] at hf
  simp only [Jc,List.mem_append] at h
  rcases h with h | h
  ·exact explode_flat a x.1 hf.1 y h
  ·exact explode_flat b x.2 hf.2 y h
theorem explode_out (g:Nat→Nat):∀ (t:Ty) (x:t.D),(Jc t x).map (CV.out g)=Jc t x
 | .int _,_=>rfl
 | .bool,_=>rfl
 | .str,_=>rfl
 | .u,_=>rfl
 | .sl _,_=>rfl
 | .p a b,x=>by simp only [Jc,List.map_append,explode_out g a,explode_out g b]
theorem Pat.back {G G':Ctx} {φ2 φ':Phi} {s2 so:St} {w':World} {g:Nat→Nat} {lend:Bool} (f:Back G G' φ2 φ' s2 so w' g lend) {p:Pat} {v:Value}
  (hf:lend=true→p.flat=true) (hp:p.av.relR (CV.rel w' (G'.im so φ') φ' so.ln so.nx) v):RV.rel (CV.rel w' (G.im s2 φ2) φ2 s2.ln s2.nx) (p.rv g) v∨(∃ cs,p = .raw false cs∧cs.length≠1):=by
 cases p with
 | dat t x=>
  left
  simp only [Pat.av,avOf] at hp
  simp only [Pat.rv]
  cases ht:t.isAgg with
  | true=>
   rw [ht] at hp
   obtain ⟨vs,e,h⟩:=hp
   have:=All2.back f (fun e=>explode_flat t x (hf e)) h
   rw [explode_out] at this
   exact ⟨vs,e,this⟩
  | false=>
   rw [ht] at hp
   exact CV.back f (y:=.d t x) hf hp
 | raw b cs=>
  simp only [Pat.av] at hp
  cases b with
  | true=>
   left
   obtain ⟨vs,e,h⟩:=hp
   exact ⟨vs,e,All2.back f (fun e=>Jq (hf e)) h⟩
  | false=>
   match cs,hp with
   | [y],hp=>exact .inl (CV.back f (fun e=>Jq (hf e) y (by simp)) hp)
   | [],hp=>exact .inr ⟨[],rfl,by simp⟩
   | _::_::_,hp=>exact .inr ⟨_,rfl,by simp⟩
end
end Go.AM
