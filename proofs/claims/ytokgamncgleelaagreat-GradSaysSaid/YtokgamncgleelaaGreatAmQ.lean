
import Derived.Test.YtokgamncgleelaaGreatAmP
set_option linter.unusedVariables false
set_option linter.unusedSimpArgs false
namespace Go.AM
def setb (s:St) (d:Nat) (b:Bool):St:={ s with env:=(d,.one (.d .bool b))::s.env }
def guardK (all:List Oper) (o:Oper) (s:St) (yes no:St→Prop):Prop:=
 match o.guard with
 | none=>yes s
 | some (j,want)=>nth all j (fun oj=>match oj.dst with
  | some d=>match lk s.env d with
   | some (.one (.d .bool β))=>(β=want→s.use fun e h n=>yes ⟨(d,.one (.d .bool want))::e,h,n⟩)∧(β = !want→s.use fun e h n=>no ⟨(d,.one (.d .bool (!want)))::e,h,n⟩)
   | some (.tup [])=>no s
   | _=>False
  | none=>False)
def putK (nt:Nat) (dst:Option Tmp) (v:Option AV) (s:St) (k:St→Prop):Prop:=
 match dst with
 | none=>k s
 | some d=>match Nat.blt d nt with
  | true=>match v with
   | some v=>s.use fun e h n=>k ⟨(d,v)::e,h,n⟩
   | none=>s.use fun e h n=>k ⟨(d,.tup [])::e,h,n⟩
  | false=>False
def vcL (P:Program) (τ:TE) (nt:Nat) (all:List Oper):List Oper→St→(St→Prop)→Prop
 | [],s,k=>k s
 | o::r,s,k=>guardK all o s (fun s=>vcOp P τ o s (fun v s m=>putK nt o.dst v s (fun s=>vcL P τ nt all r s k))) (fun s=>putK nt o.dst none s (fun s=>vcL P τ nt all r s k))
section
variable {P:Program} {τ:TE} {G:Ctx} {φ:Phi} {s:St} {a:Act} {w:World} {nt:Nat}
theorem undef_rel {R:CV→Value→Prop}:(AV.tup []).relR R undef:=⟨[],rfl,.nil⟩
theorem Ll (h:Sat G φ s a w) (hn:nt≤a.tmps.size) {dst:Option Tmp} {v:Option AV} {u:Value} {k:St→Prop} (hk:putK nt dst v s k) (hu:optRel (CV.rel w (G.im s φ) φ s.ln s.nx) v u) :
  ∃ s',k s'∧Sat G φ s' (a.put dst u) w∧nt≤(a.put dst u).tmps.size∧s'.heap=s.heap∧s'.nx=s.nx:=by
 unfold putK at hk
 simp only [St.use_eq] at hk
 split at hk
 ·exact ⟨s,hk,h,hn,rfl,rfl⟩
 ·rename_i d
  split at hk
  ·rename_i hd0
   have hd:d<a.tmps.size:=Nat.lt_of_lt_of_le (by rw [← Nat.blt_eq];exact hd0) hn
   split at hk
   ·rename_i v
    exact ⟨_,hk,h.put hd hu,by simp [Act.put,hn],rfl,rfl⟩
   ·have hu':u=undef:=hu
    subst hu'
    exact ⟨_,hk,h.put (v:=.tup []) hd undef_rel,by simp [Act.put,hn],rfl,rfl⟩
  ·exact hk.elim
theorem Sat.setb (h:Sat G φ s a w) {d:Nat} {b:Bool} (hv:lk s.env d=some (.one (.d .bool b))):Sat G φ (setb s d b) a w:=by
 obtain ⟨h1,h2⟩:=h.env d _ hv
 exact h.frame' h.df (fun i v hi=>by
  rw [Gr] at hi
  split at hi
  ·rename_i e;subst e;cases hi;exact ⟨h1,h2⟩
  ·exact h.env i v hi)
theorem guardK_spec (h:Sat G φ s a w) {all:List Oper} {o:Oper} {yes no:St→Prop} (hk:guardK all o s yes no) :
  (Region.wanted o (yielded all.toArray a.tmps)=true∧∃ s',yes s'∧Sat G φ s' a w∧s'.heap=s.heap∧s'.nx=s.nx)∨
  (Region.wanted o (yielded all.toArray a.tmps)=false∧∃ s',no s'∧Sat G φ s' a w∧s'.heap=s.heap∧s'.nx=s.nx):=by
 unfold guardK at hk
 simp only [St.use_eq] at hk
 split at hk
 ·rename_i hg
  exact .inl ⟨by simp [Region.wanted,hg],s,hk,h,rfl,rfl⟩
 ·rename_i j want hg
  obtain ⟨oj,hj,hk⟩:=Jz _ _ _ hk
  split at hk
  ·rename_i d hd
   have hy:∀ v,a.tmps[d]?=some v→yielded all.toArray a.tmps j=(match v with | .bool b=>some b | _=>none):=fun v hv=>by
    simp only [yielded,List.getElem?_toArray,hj,Option.bind_some,hd,hv]
    cases v <;> rfl
   split at hk
   ·rename_i β hβ
    obtain ⟨h1,h2⟩:=h.env d _ hβ
    have hb:a.tmps.getD d undef = .bool β:=Je (w:=w) (im:=G.im s φ) (φ:=φ) (ln:=s.ln) (nx:=s.nx) h2
    have hg2:a.tmps[d]?=some (.bool β):=by
     rw [Array.getD_eq_getD_getElem?] at hb
     rw [Array.getElem?_eq_getElem h1] at hb ⊢
     simpa using hb
    have hw:Region.wanted o (yielded all.toArray a.tmps)=(some β==some want):=by simp [Region.wanted,hg,hy _ hg2]
    by_cases e:(β:Bool)=want
    ·refine .inl ⟨by rw [hw];simp [e],_,hk.1 e,?_,rfl,rfl⟩
     subst e;exact h.setb hβ
    ·have e':(β:Bool) = !want:=by revert e;cases (β:Bool) <;> cases want <;> simp
     refine .inr ⟨by rw [hw];simp [e],_,hk.2 e',?_,rfl,rfl⟩
     rw [← e'];exact h.setb hβ
   ·rename_i hβ
    obtain ⟨h1,us,h2,h3⟩:=h.env d _ hβ
    cases h3
    have hg2:a.tmps[d]?=some (.tuple ⟨[]⟩):=by
     rw [Array.getD_eq_getD_getElem?] at h2
     rw [Array.getElem?_eq_getElem h1] at h2 ⊢
     simpa using h2
    exact .inr ⟨by simp [Region.wanted,hg,hy _ hg2],s,hk,h,rfl,rfl⟩
   ·exact hk.elim
  ·exact hk.elim
theorem op_wp (hτ:τ.Ok P) (h:Sat G φ s a w) {o:Oper} {k:Option AV→St→List Nat→Prop} (hk:vcOp P τ o s k) {next:Act→World→Prop} {Q:Exit→Act→World→Prop}
  (hn:∀ u w',J6 G φ s a w k u w'→next (a.put o.dst u) w'):o.wp P a w next Q:=by
 unfold Oper.wp
 rcases vcOp_next hτ h hk with ⟨u,w',h1,h2⟩ | ⟨w',h1,h2⟩ | ⟨f,args,h1,h2⟩
 ·rw [h1];exact hn u w' h2
 ·rw [h1];exact hn undef w' h2
 ·rw [h1]
  refine h2.mono (fun e w' ⟨u,e1,h3⟩=>?_)
  subst e1
  exact hn u w' h3
theorem vcL_wp (hτ:τ.Ok P) {all:List Oper} {Q:Exit→Act→World→Prop}:∀ (l:List Oper) {s:St} {φ:Phi} {a:Act} {w:World} {k:St→Prop},Sat G φ s a w→nt≤a.tmps.size→vcL P τ nt all l s k→
  (∀ s' φ' a' w',k s'→Sat G φ' s' a' w'→nt≤a'.tmps.size→Q .normal a' w')→wpList P all.toArray Q l a w
 | [],s,φ,a,w,k,h,hn,hk,hQ=>hQ s φ a w hk h hn
 | o::r,s,φ,a,w,k,h,hn,hk,hQ=>by
  unfold wpList
  rcases guardK_spec h hk with ⟨hw,s1,h1,h2,_,_⟩ | ⟨hw,s1,h1,h2,_,_⟩
  ·rw [if_pos hw]
   refine .inl (op_wp hτ h2 h1 (fun u w' ⟨v,s',φ',m,k1,k2,k3,k4,k5⟩=>?_))
   obtain ⟨s2,j1,j2,j3,_,_⟩:=Ll k2 hn k1 k3
   exact vcL_wp hτ r j2 j3 j1 hQ
  ·rw [if_neg (by simp [hw])]
   obtain ⟨s2,j1,j2,j3,_,_⟩:=Ll (u:=undef) h2 hn h1 rfl
   exact vcL_wp hτ r j2 j3 j1 hQ
end
end Go.AM
