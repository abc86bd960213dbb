
import Derived.Test.YtokgamncgleelaaGreatAmC
import Derived.Laws.AppendOwn
import Derived.Laws.CopyRow
set_option linter.unusedVariables false
set_option linter.unusedSimpArgs false
namespace Go.AM
def tk {α:Type}:Nat→List α→(List α→Prop)→Prop
 | 0,_,k=>k []
 | _+1,[],_=>False
 | n+1,x::xs,k=>tk n xs (fun r=>k (x::r))
def dp {α:Type}:Nat→List α→(List α→Prop)→Prop
 | 0,xs,k=>k xs
 | _+1,[],_=>False
 | n+1,_::xs,k=>dp n xs k
def nth {α:Type}:List α→Nat→(α→Prop)→Prop
 | [],_,_=>False
 | x::_,0,k=>k x
 | _::xs,n+1,k=>nth xs n k
def sts {α:Type}:List α→Nat→List α→(List α→Prop)→Prop
 | xs,_,[],k=>k xs
 | [],_,_::_,_=>False
 | _::xs,0,y::ys,k=>sts xs 0 ys (fun r=>k (y::r))
 | x::xs,n+1,y::ys,k=>sts xs n (y::ys) (fun r=>k (x::r))
theorem tk_spec {α:Type}:∀ (n:Nat) (xs:List α) (k:List α→Prop),tk n xs k→n≤xs.length∧k (xs.take n)
 | 0,_,_,h=>⟨Nat.zero_le _,by rw [List.take_zero];exact h⟩
 | _+1,[],_,h=>h.elim
 | n+1,x::xs,k,h=>by
  obtain ⟨h1,h2⟩:=tk_spec n xs _ h
  exact ⟨by simpa using h1,by simpa using h2⟩
theorem dp_spec {α:Type}:∀ (n:Nat) (xs:List α) (k:List α→Prop),dp n xs k→n≤xs.length∧k (xs.drop n)
 | 0,_,_,h=>⟨Nat.zero_le _,by rw [List.drop_zero];exact h⟩
 | _+1,[],_,h=>h.elim
 | n+1,x::xs,k,h=>by
  obtain ⟨h1,h2⟩:=dp_spec n xs _ h
  exact ⟨by simpa using h1,by simpa using h2⟩
theorem Jz {α:Type}:∀ (xs:List α) (n:Nat) (k:α→Prop),nth xs n k→∃ x,xs[n]?=some x∧k x
 | [],_,_,h=>h.elim
 | x::_,0,_,h=>⟨x,rfl,h⟩
 | _::xs,n+1,k,h=>by simpa using Jz xs n k h
theorem sts_spec {α:Type}:∀ (xs:List α) (n:Nat) (ys:List α) (k:List α→Prop),n≤xs.length→sts xs n ys k→n+ys.length≤xs.length∧k (xs.take n++ys++xs.drop (n+ys.length))
 | xs,n,[],k,hn,h=>⟨by simpa using hn,by simpa using (show k xs by cases xs <;> simpa [sts] using h)⟩
 | [],_,_::_,_,_,h=>by simp [sts] at h
 | x::xs,0,y::ys,k,_,h=>by
  obtain ⟨h1,h2⟩:=sts_spec xs 0 ys _ (Nat.zero_le _) h
  exact ⟨by simp at h1 ⊢;omega,by simpa [Nat.add_comm] using h2⟩
 | x::xs,n+1,y::ys,k,hn,h=>by
  obtain ⟨h1,h2⟩:=sts_spec xs n (y::ys) _ (by simpa using hn) h
  refine ⟨by simp at h1 ⊢;omega,?_⟩
  rw [show n+1+(y::ys).length=(n+(y::ys).length)+1 by simp;omega]
  simpa using h2
def Jc:(t:Ty)→t.D→List CV
 | .int k,x=>[.d (.int k) x]
 | .bool,x=>[.d .bool x]
 | .str,x=>[.d .str x]
 | .sl t,x=>[.d (.sl t) x]
 | .u,_=>[]
 | .p a b,x=>Jc a x.1++Jc b x.2
theorem Gz {w:World} {im:Nat→Prop} {φ:Phi} {ln:Nat→Option Nat} {nx:Nat}:∀ (t:Ty) (x:t.D) (ds:List Value),t.rel w im x ds→All2 (CV.rel w im φ ln nx) (Jc t x) ds
 | .int k,x,ds,h=>by have h':ds=[.int k x]:=h;subst h';exact .cons rfl .nil
 | .bool,x,ds,h=>by have h':ds=[.bool x]:=h;subst h';exact .cons rfl .nil
 | .str,x,ds,h=>by have h':ds=[.string x]:=h;subst h';exact .cons rfl .nil
 | .u,x,ds,h=>by have h':ds=[]:=h;subst h';exact .nil
 | .sl t,xs,ds,h=>by
  have h':=h
  obtain ⟨A,cap,e,_⟩:=h
  subst e
  exact .cons h' .nil
 | .p a b,x,ds,⟨c1,c2,e,h1,h2⟩=>by
  subst e
  exact (Gz a x.1 c1 h1).append (Gz b x.2 c2 h2)
def castK {t t':Ty} (h:t'=t):t'.D→(t.D→Prop)→Prop:=
 Eq.rec (motive:=fun (q:Ty) _=>t'.D→(q.D→Prop)→Prop) (fun x K=>K x) h
theorem castK_spec {t t':Ty} (h:t'=t) (x:t'.D) (K:t.D→Prop) (hk:castK h x K):∃ y:t.D,K y∧HEq x y:=by
 subst h
 exact ⟨x,hk,HEq.rfl⟩
def Ty.eqK (t t':Ty) (x:t'.D) (K:t.D→Prop):Prop:=
 match instDecidableEqTy t' t with
 | .isTrue h=>castK h x K
 | .isFalse _=>False
theorem Ty.eqK_spec {t t':Ty} {x:t'.D} {K:t.D→Prop} (h:Ty.eqK t t' x K):∃ y:t.D,K y∧t'=t∧HEq x y:=by
 unfold Ty.eqK at h
 split at h
 ·rename_i e _
  obtain ⟨y,h1,h2⟩:=castK_spec e x K h
  exact ⟨y,h1,e,h2⟩
 ·exact h.elim
def viewK (s:St) (t:Ty) (x:CV) (K:List t.D→List Nat→Prop):Prop:=
 match x with
 | .d (.sl t') xs=>Ty.eqK (.sl t) (.sl t') xs (fun y=>K y [])
 | .osl id=>match s.at id with
  | some (.arr _ t' xs)=>Ty.eqK (.sl t) (.sl t') xs (fun y=>K y [id])
  | some (.pub _ t' xs)=>Ty.eqK (.sl t) (.sl t') xs (fun y=>K y [])
  | _=>False
 | .c (.slice none 0 0)=>K [] []
 | .emp=>K [] []
 | _=>False
def imp (s:St):(t:Ty)→List CV→(t.D→List CV→List Nat→Prop)→Prop
 | .int k,x::r,K=>match x with
  | .d (.int k') n=>match IntKind.same k' k with
   | true=>K n r []
   | false=>False
  | _=>False
 | .bool,x::r,K=>match x with
  | .d .bool b=>K b r []
  | _=>False
 | .str,x::r,K=>match x with
  | .d .str b=>K b r []
  | _=>False
 | .u,r,K=>K () r []
 | .sl t,x::r,K=>viewK s t x (fun xs ids=>K xs r ids)
 | .p a b,cs,K=>imp s a cs (fun x r ids=>imp s b r (fun y r' ids'=>K (x,y) r' (ids++ids')))
 | _,[],_=>False
def listRel (w:World) (im:Nat→Prop) (φ:Phi) (t:Ty) (xs:List t.D) (v:Value):Prop:=
 ∃ A cap,v = .slice A xs.length cap∧xs.length≤cap∧(xs≠[]→∃ b o,A=some ⟨b,o,none⟩∧Row w b o t.n (fun x ds=>t.rel w im x ds) xs)
section
variable {G:Ctx} {φ:Phi} {s:St} {a:Act} {w:World}
theorem Sat.at_lt (h:Sat G φ s a w) {id:Nat} {ch:Chunk} (hat:s.at id=some ch):id<s.nx:=(h.heap id ch hat).1
theorem J0 {s:St} {id:Nat} {e:TypeId} {t:Ty} {xs:List t.D} (h:s.at id=some (.arr e t xs)):s.ln id=some xs.length:=by simp [St.ln,h,Chunk.len]
theorem Lr {s:St} {id:Nat} {e:TypeId} {t:Ty} {xs:List t.D} (h:s.at id=some (.pub e t xs)):s.ln id=some xs.length:=by simp [St.ln,h,Chunk.len]
theorem Sat.osl_list (h:Sat G φ s a w) {id:Nat} {e:TypeId} {t:Ty} {xs:List t.D} {v:Value}
  (hat:s.at id=some (.arr e t xs)) (hv:CV.rel w (G.im s φ) φ s.ln s.nx (.osl id) v) :
  listRel w (G.im s φ) φ t xs v∧((φ id=none∧xs=[]∧v = .slice none 0 0)∨∃ b cap,φ id=some (b,cap)∧v = .slice (some ⟨b,0,none⟩) xs.length cap):=by
 obtain ⟨_,_,h3⟩:=hv
 have hc:=(h.heap id _ hat).2
 rcases h3 _ (J0 hat) with ⟨b,cap,h4,rfl⟩ | ⟨h4,h5,rfl⟩
 ·rcases hc with ⟨h6,_⟩ | ⟨b',cap',h6,h7,h7',c,h8,h9,h10⟩
  ·rw [h6] at h4;cases h4
  ·rw [h4] at h6;cases h6
   refine ⟨⟨_,cap,rfl,h7,fun _=>⟨b,0,rfl,c,e,(0,0),h8,fun i hi=>?_⟩⟩,.inr ⟨b,cap,h4,rfl⟩⟩
   obtain ⟨ds,k1,k2,k3⟩:=h10 i hi
   exact ⟨ds,k1,k2,fun j hj=>by rw [Nat.zero_add];exact k3 j hj⟩
 ·have:xs=[]:=List.eq_nil_of_length_eq_zero h5
  subst this
  exact ⟨⟨none,0,rfl,Nat.le_refl _,fun hne=>absurd rfl hne⟩,.inl ⟨h4,rfl,rfl⟩⟩
theorem Sat.pub_data (h:Sat G φ s a w) {id:Nat} {e:TypeId} {t:Ty} {xs:List t.D} {v:Value}
  (hat:s.at id=some (.pub e t xs)) (hv:CV.rel w (G.im s φ) φ s.ln s.nx (.osl id) v):CV.rel w (G.im s φ) φ s.ln s.nx (.d (.sl t) xs) v:=by
 obtain ⟨_,_,h3⟩:=hv
 have hc:=(h.heap id _ hat).2
 rcases h3 _ (Lr hat) with ⟨b,cap,h4,rfl⟩ | ⟨h4,h5,rfl⟩
 ·rcases hc with ⟨h6,_⟩ | ⟨b',cap',h6,h7,h8⟩
  ·rw [h6] at h4;cases h4
  ·rw [h4] at h6;cases h6
   exact ⟨_,cap,rfl,h7,fun hne=>let ⟨k1,k2⟩:=h8 hne;⟨b,0,rfl,k1,k2⟩⟩
 ·have:xs=[]:=List.eq_nil_of_length_eq_zero h5
  subst this
  exact ⟨none,0,rfl,Nat.le_refl _,fun hne=>absurd rfl hne⟩
theorem K6 {w:World} {im:Nat→Prop} {φ:Phi} {ln:Nat→Option Nat} {nx:Nat} {t:Ty} {xs:List t.D} {v:Value}
  (hv:CV.rel w im φ ln nx (.d (.sl t) xs) v):listRel w im φ t xs v:=by
 obtain ⟨A,cap,e,hc,hr⟩:=hv
 simp only [List.cons.injEq,and_true] at e
 exact ⟨A,cap,e,hc,fun hne=>let ⟨b,o,h1,_,h2⟩:=hr hne;⟨b,o,h1,h2⟩⟩
def Outs (s:St) (ids:List Nat):Prop:=∀ id ∈ ids,∃ e t xs,s.at id=some (.arr e t xs)
theorem viewK_list (h:Sat G φ s a w) {t:Ty} {x:CV} {K:List t.D→List Nat→Prop} {v:Value} (hk:viewK s t x K)
  (hv:CV.rel w (G.im s φ) φ s.ln s.nx x v):∃ (xs:List t.D) (ids:List Nat),K xs ids∧Outs s ids∧listRel w (G.im s φ) φ t xs v∧
   (ids=[]→CV.rel w (G.im s φ) φ s.ln s.nx (.d (.sl t) xs) v)∧(∀ id ∈ ids,x = .osl id∧∃ e,s.at id=some (.arr e t xs)):=by
 unfold viewK at hk
 split at hk
 ·obtain ⟨y,h1,h2,h3⟩:=Ty.eqK_spec hk
  cases h2
  cases h3
  exact ⟨_,[],h1,fun _ h=>by simp at h,K6 hv,fun _=>hv,fun _ h=>by simp at h⟩
 ·split at hk
  ·rename_i id _ e t' xs hat
   obtain ⟨y,h1,h2,h3⟩:=Ty.eqK_spec hk
   cases h2
   cases h3
   refine ⟨_,[id],h1,fun i hi=>?_,(h.osl_list hat hv).1,(fun e=>nomatch e),fun i hi=>?_⟩
   ·simp only [List.mem_singleton] at hi;subst hi;exact ⟨_,_,_,hat⟩
   ·simp only [List.mem_singleton] at hi;subst hi;exact ⟨rfl,_,hat⟩
  ·rename_i id _ e t' xs hat
   obtain ⟨y,h1,h2,h3⟩:=Ty.eqK_spec hk
   cases h2
   cases h3
   have:=h.pub_data hat hv
   exact ⟨_,[],h1,fun _ h=>by simp at h,K6 this,fun _=>this,fun _ h=>by simp at h⟩
  ·exact hk.elim
 ·obtain ⟨rfl,_⟩:=hv
  have:CV.rel w (G.im s φ) φ s.ln s.nx (.d (.sl t) []) (.slice none 0 0):=⟨none,0,rfl,Nat.le_refl _,fun hne=>absurd rfl hne⟩
  exact ⟨[],[],hk,fun _ h=>by simp at h,K6 this,fun _=>this,fun _ h=>by simp at h⟩
 ·obtain ⟨A,rfl⟩:=hv
  have:CV.rel w (G.im s φ) φ s.ln s.nx (.d (.sl t) []) (.slice A 0 0):=⟨A,0,rfl,Nat.le_refl _,fun hne=>absurd rfl hne⟩
  exact ⟨[],[],hk,fun _ h=>by simp at h,K6 this,fun _=>this,fun _ h=>by simp at h⟩
 ·exact hk.elim
theorem imp_spec (h:Sat G φ s a w):∀ (t:Ty) (cs:List CV) (K:t.D→List CV→List Nat→Prop) (vs:List Value),imp s t cs K→All2 (CV.rel w (G.im s φ) φ s.ln s.nx) cs vs→
  ∃ (x:t.D) (r:List CV) (ids:List Nat) (v1 v2:List Value),K x r ids∧vs=v1++v2∧v1.length=t.n∧All2 (CV.rel w (G.im s φ) φ s.ln s.nx) r v2∧Outs s ids∧
   (∀ im',(∀ b,G.im s φ b→im' b)→(∀ id ∈ ids,∀ b cap,φ id=some (b,cap)→im' b)→t.rel w im' x v1):=by
 intro t
 induction t with
 | int k=>
  intro cs K vs hk hv
  cases cs with
  | nil=>exact hk.elim
  | cons x r=>
   obtain _ | ⟨h1,h2⟩:=hv
   simp only [imp] at hk
   split at hk
   ·split at hk
    ·rename_i k' n _ hs
     have:=IntKind.same_eq hs
     subst this
     rw [Gj h1]
     exact ⟨n,r,[],[_],_,hk,rfl,rfl,h2,fun _ h=>by simp at h,fun _ _ _=>rfl⟩
    ·exact hk.elim
   ·exact hk.elim
 | bool=>
  intro cs K vs hk hv
  cases cs with
  | nil=>exact hk.elim
  | cons x r=>
   obtain _ | ⟨h1,h2⟩:=hv
   simp only [imp] at hk
   split at hk
   ·rw [Je h1]
    exact ⟨_,r,[],[_],_,hk,rfl,rfl,h2,fun _ h=>by simp at h,fun _ _ _=>rfl⟩
   ·exact hk.elim
 | str=>
  intro cs K vs hk hv
  cases cs with
  | nil=>exact hk.elim
  | cons x r=>
   obtain _ | ⟨h1,h2⟩:=hv
   simp only [imp] at hk
   split at hk
   ·rw [G7 h1]
    exact ⟨_,r,[],[_],_,hk,rfl,rfl,h2,fun _ h=>by simp at h,fun _ _ _=>rfl⟩
   ·exact hk.elim
 | u=>
  intro cs K vs hk hv
  have hk':K () cs []:=by cases cs <;> exact hk
  exact ⟨(),cs,[],[],vs,hk',rfl,rfl,hv,fun _ h=>by simp at h,fun _ _ _=>rfl⟩
 | sl t ih=>
  intro cs K vs hk hv
  cases cs with
  | nil=>exact hk.elim
  | cons x r=>
   obtain _ | ⟨h1,h2⟩:=hv
   simp only [imp] at hk
   obtain ⟨xs,ids,k1,k2,⟨A,cap,rfl,k3,k4⟩,k5,k6⟩:=viewK_list h hk h1
   refine ⟨xs,r,ids,[_],_,k1,rfl,rfl,h2,k2,fun im' hi hids=>?_⟩
   cases ids with
   | nil=>
    have:=k5 rfl
    exact Ty.rel_mono (fun b hb _=>⟨hi b hb,rfl⟩) (.sl t) xs _ this
   | cons id ids=>
    obtain ⟨rfl,e,hat⟩:=k6 id (by simp)
    refine ⟨A,cap,rfl,k3,fun hne=>?_⟩
    obtain ⟨b,o,rfl,hr⟩:=k4 hne
    refine ⟨b,o,rfl,?_,hr.mono rfl (fun x ds hx=>Ty.rel_mono (fun b hb _=>⟨hi b hb,rfl⟩) t x ds hx)⟩
    rcases (h.osl_list hat h1).2 with ⟨_,h6,_⟩ | ⟨b',cap',h6,h7⟩
    ·exact absurd h6 hne
    ·simp only [Value.slice.injEq,Option.some.injEq,Addr.mk.injEq] at h7
     obtain ⟨⟨rfl,_⟩,_⟩:=h7
     exact hids id (by simp) b _ h6
 | p a b iha ihb=>
  intro cs K vs hk hv
  have hk':imp s a cs (fun x r ids=>imp s b r (fun y r' ids'=>K (x,y) r' (ids++ids'))):=by cases cs <;> exact hk
  obtain ⟨x,r,ids,v1,v2,k1,rfl,k2,k3,k4,k5⟩:=iha cs _ vs hk' hv
  obtain ⟨y,r',ids',u1,u2,j1,rfl,j2,j3,j4,j5⟩:=ihb r _ v2 k1 k3
  refine ⟨(x,y),r',ids++ids',v1++u1,u2,j1,by simp,by simp [Ty.n,k2,j2],j3,?_,fun im' hi hids=>⟨v1,u1,rfl,k5 im' hi (fun id hid=>hids id (by simp [hid])),j5 im' hi (fun id hid=>hids id (by simp [hid]))⟩⟩
  intro id hid
  rcases List.mem_append.1 hid with hid | hid
  ·exact k4 id hid
  ·exact j4 id hid
end
end Go.AM
