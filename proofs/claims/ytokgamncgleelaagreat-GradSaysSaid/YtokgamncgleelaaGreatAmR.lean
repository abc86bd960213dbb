
import Derived.Test.YtokgamncgleelaaGreatAmQ
set_option linter.unusedVariables false
set_option linter.unusedSimpArgs false
namespace Go.AM
def vcFl (P:Program) (τ:TE) (o:Oper) (s:St) (k:AV→Prop):Prop:=
 match o.op with
 | .move x=>evK s x k
 | .assign x=>evK s x k
 | .pick c a b=>match ev s c with
  | some (.one (.d .bool β))=>(β=true→evK s a k)∧(β=false→evK s b k)
  | _=>False
 | .build t ps=>buildK τ t s ps.toList k
 | .load t x=>ev1 s x (fun y=>loadK τ t s y k)
 | .nilCheck x=>ev1 s x (fun y=>match y with
  | .ptr _ _=>k (.one y)
  | .ep _ _ _ _=>k (.one y)
  | .ip _ _ _=>k (.one y)
  | _=>False)
 | .binOp op t x y _=>match ev s x with
  | some (.agg cs)=>evK s y (fun y=>eqAggK P τ op t (.agg cs) y (fun r=>k (.one r)))
  | some (.one (.c .nilIface))=>nilIfK τ op t y (fun r=>k (.one r))
  | _=>ev1 s x (fun x=>ev1 s y (fun y=>binCV τ op t x y (fun r=>k (.one r))))
 | .unOp op _ x=>ev1 s x (fun x=>unCV op x (fun r=>k (.one r)))
 | .convert src dst x=>ev1 s x (fun x=>convCV τ src dst x (fun r=>k (.one r)))
 | .slice t x lo hi none=>ev1 s x (fun x=>match lk τ t with
  | some j=>match j.desc,x with
   | .string,.d .str b=>evI s lo (fun l=>evI s hi (fun n=>strCut b l n (fun r=>k (.one r))))
   | .slice e,.d (.sl t') xs=>match lk τ e with
    | some ie=>match ie.ty with
     | some t=>Ty.eqK (.sl t) (.sl t') xs (fun ys=>evI s lo (fun l=>evI s hi (fun n=>cutC ys l n (fun r=>k (.one r)))))
     | none=>False
    | none=>False
   | .slice e,.osl id=>match s.at id with
    | some (.pub _ t' xs)=>match lk τ e with
     | some ie=>match ie.ty with
      | some t=>Ty.eqK (.sl t) (.sl t') xs (fun ys=>evI s lo (fun l=>evI s hi (fun n=>cutC ys l n (fun r=>k (.one r)))))
      | none=>False
     | none=>False
    | _=>winK τ e s id lo hi (fun r=>k (.one r))
   | _,_=>False
  | none=>False)
 | .fieldAddr S x f=>ev1 s x (fun x=>fldK τ S x f (fun r=>k (.one r)))
 | .field S x f=>evK s x (fun x=>fieldK τ S x f k)
 | .indexAddr t x ix=>ev1 s x (fun x=>ev1 s ix (fun ix=>ixK τ t s x ix (fun r=>k (.one r))))
 | .index t x ix=>evK s x (fun x=>evK s ix (fun ix=>indexK τ t x ix k))
 | .extract t i=>evK s t (fun v=>match v with
  | .tup vs=>nth vs i (fun p=>k (toAV p))
  | _=>False)
 | .call c=>match c.callee with
  | .builtin .len=>match c.args.toList,c.argTypes.toList with
   | [x],[t]=>ev1 s x (fun x=>lenK τ t s x (fun r=>k (.one r)))
   | _,_=>False
  | .builtin .max=>evsL s c.args.toList (fun xs=>mxCV true xs (fun r=>k (.one r)))
  | .builtin .min=>evsL s c.args.toList (fun xs=>mxCV false xs (fun r=>k (.one r)))
  | _=>False
 | _=>False
section
variable {P:Program} {τ:TE} {G:Ctx} {φ:Phi} {s:St} {a:Act} {w:World} {nt:Nat}
theorem vcFl_spec (hτ:τ.Ok P) (h:Sat G φ s a w) {o:Oper} {k:AV→Prop} (hk:vcFl P τ o s k) :
  ∃ v u,k v∧v.relR (CV.rel w (G.im s φ) φ s.ln s.nx) u∧∀ w',(∀ t x,o.op = .load t x→∀ b o',a.eval x = .pointer (some ⟨b,o',none⟩)→w'.heap[b]?=w.heap[b]?)→(execOp a.eval o).run P w' = .ok (.value u) w':=by
 unfold vcFl at hk
 split at hk
 ·rename_i x e
  obtain ⟨v,h1,h2⟩:=Gm h hk
  exact ⟨v,_,h1,h2,fun w' _=>by simp [execOp,e]⟩
 ·rename_i x e
  obtain ⟨v,h1,h2⟩:=Gm h hk
  exact ⟨v,_,h1,h2,fun w' _=>by simp [execOp,e]⟩
 ·rename_i c x y e
  split at hk
  ·rename_i β hβ
   have hb:a.eval c = .bool β:=Je (w:=w) (im:=G.im s φ) (φ:=φ) (ln:=s.ln) (nx:=s.nx) (Lv h hβ)
   cases hbb:(β:Bool) with
   | true=>
    obtain ⟨v,h1,h2⟩:=Gm h (hk.1 hbb)
    exact ⟨v,_,h1,h2,fun w' _=>by simp [execOp,e,hb,asBool,hbb]⟩
   | false=>
    obtain ⟨v,h1,h2⟩:=Gm h (hk.2 hbb)
    exact ⟨v,_,h1,h2,fun w' _=>by simp [execOp,e,hb,asBool,hbb]⟩
  ·exact hk.elim
 ·rename_i t ps e
  obtain ⟨r,u,h1,h2,h3⟩:=build_spec hτ h hk
  exact ⟨r,u,h1,h3,fun w' _=>by simp [execOp,e,h2]⟩
 ·rename_i t x e
  obtain ⟨y,h1,h2⟩:=Gf h hk
  obtain ⟨r,u,h3,h4,h5⟩:=load_spec hτ h h1 h2
  exact ⟨r,u,h3,h5,fun w' hs=>by simp [execOp,e,h4 w' (fun b o' he=>hs t x e b o' he)]⟩
 ·rename_i x e
  obtain ⟨y,h1,h2⟩:=Gf h hk
  have hp:∃ p,a.eval x = .pointer (some p)∧k (.one y):=by
   split at h1
   ·obtain ⟨_,b,cap,_,e1⟩:=h2;exact ⟨_,e1,h1⟩
   ·obtain ⟨_,⟨b,cap,_,e1⟩,_⟩:=h2;exact ⟨_,e1,h1⟩
   ·obtain ⟨b,o,c,T,z,ds,e1,_⟩:=h2;exact ⟨_,e1,h1⟩
   ·exact h1.elim
  obtain ⟨p,hp,hkk⟩:=hp
  exact ⟨_,a.eval x,hkk,h2,fun w' _=>by simp [execOp,e,hp]⟩
 ·rename_i op t x y yt e
  split at hk
  ·rename_i cs hcs
   obtain ⟨vy,h1,h2⟩:=Gm h hk
   obtain ⟨r,u,h3,h4,h5,h6⟩:=eqAgg_run hτ h1 (Lv h hcs) h2
   exact ⟨_,u,h3,h5,fun w' _=>by simp [execOp,e,h6 x y w',h4]⟩
  ·rename_i hcs
   unfold nilIfK at hk
   split at hk
   ·split at hk
    ·rename_i hb
     obtain ⟨r,u,h3,h4,h5⟩:=nilIf_run hτ hb hk
     have hx0:a.eval x = .nilIface:=(Lv h hcs).1
     have hg:∀ w,(eqGuard op t x (.const .nilIface) .nilIface .nilIface).run P w = .ok () w:=fun w=>by
      unfold eqGuard
      cases op <;> simp
     have hy0:a.eval (.const .nilIface) = .nilIface:=rfl
     exact ⟨_,u,h3,h5 _ _ _ _ _,fun w' _=>by simp [execOp,e,hx0,hy0,hg,h4]⟩
    ·exact hk.elim
   ·exact hk.elim
  ·obtain ⟨vx,h1,h2⟩:=Gf h hk
   obtain ⟨vy,h3,h4⟩:=Gf h h1
   obtain ⟨r,u,h5,h6,h7⟩:=binCV_run hτ h3 h2 h4
   have hg:=fun w=>eqGuard_run (P:=P) op t x y (vx:=a.eval x) (vy:=a.eval y) (binCV_left h3 h2) w
   exact ⟨_,u,h5,h7,fun w' _=>by simp [execOp,e,hg,h6]⟩
 ·rename_i op t x e
  obtain ⟨vx,h1,h2⟩:=Gf h hk
  obtain ⟨r,u,h5,h6,h7⟩:=unCV_run (P:=P) h1 h2
  exact ⟨_,u,h5,h7,fun w' _=>by simp [execOp,e,h6]⟩
 ·rename_i src dst x e
  obtain ⟨vx,h1,h2⟩:=Gf h hk
  obtain ⟨r,u,h5,h6,h7⟩:=convCV_run hτ h1 h2
  exact ⟨_,u,h5,h7,fun w' _=>by simp [execOp,e,h6]⟩
 ·rename_i T x lo hi e
  obtain ⟨vx,h1,h2⟩:=Gf h hk
  have fin:∀ r u,k (.one r)→(∀ w',(Instr.sliceAt T (a.eval x) (lo.map a.eval) (hi.map a.eval) none).run P w' = .ok u w')→CV.rel w (G.im s φ) φ s.ln s.nx r u→
    ∃ v u,k v∧v.relR (CV.rel w (G.im s φ) φ s.ln s.nx) u∧∀ w',(∀ t x,o.op = .load t x→∀ b o',a.eval x = .pointer (some ⟨b,o',none⟩)→w'.heap[b]?=w.heap[b]?)→(execOp a.eval o).run P w' = .ok (.value u) w':=
   fun r u q1 q2 q3=>⟨.one r,u,q1,q3,fun w' _=>by simp only [execOp,e,Option.map_none,Sem.run_bind,q2,Result.andThen_ok,Sem.run_pure]⟩
  split at h1
  ·rename_i j hj
   split at h1
   ·rename_i b hd
    have hb:=G7 h2
    obtain ⟨r,u,q1,q2,q3⟩:=strCut_spec hτ h hj hd h1
    exact fin r u q1 (by rw [hb];exact q2) q3
   ·rename_i e' t' xs hd
    split at h1
    ·rename_i ie hie
     split at h1
     ·rename_i t ht
      obtain ⟨ys,hk',e1,e2⟩:=Ty.eqK_spec h1
      cases e1
      cases e2
      obtain ⟨r,u,q1,q2,q3⟩:=cut_spec hτ h hj hd hie ht hk' h2
      exact fin r u q1 q2 q3
     ·exact h1.elim
    ·exact h1.elim
   ·rename_i e' id hd
    split at h1
    ·rename_i e3 t' xs hat
     split at h1
     ·rename_i ie hie
      split at h1
      ·rename_i t ht
       obtain ⟨ys,hk',e1,e2⟩:=Ty.eqK_spec h1
       cases e1
       cases e2
       obtain ⟨r,u,q1,q2,q3⟩:=cut_spec hτ h hj hd hie ht hk' (h.pub_data hat h2)
       exact fin r u q1 q2 q3
      ·exact h1.elim
     ·exact h1.elim
    ·obtain ⟨r,u,q1,q2,q3⟩:=win_spec hτ h hj hd h1 h2
     exact fin r u q1 q2 q3
   ·exact h1.elim
  ·exact h1.elim
 ·rename_i S x f e
  obtain ⟨vx,h1,h2⟩:=Gf h hk
  obtain ⟨r,u,h3,h4,h5⟩:=fld_spec hτ h h1 h2
  exact ⟨_,u,h3,h5,fun w' _=>by simp [execOp,e,h4]⟩
 ·rename_i S x f e
  obtain ⟨vx,h1,h2⟩:=Gm h hk
  obtain ⟨r,u,h3,h4,h5⟩:=field_spec hτ h1 h2
  exact ⟨_,u,h3,h5,fun w' _=>by simp [execOp,e,h4]⟩
 ·rename_i t x ix e
  obtain ⟨vx,h1,h2⟩:=Gf h hk
  obtain ⟨vi,h3,h4⟩:=Gf h h1
  obtain ⟨r,u,h5,h6,h7⟩:=ix_spec hτ h h3 h2 h4
  exact ⟨_,u,h5,h7,fun w' _=>by simp [execOp,e,h6]⟩
 ·rename_i t x ix e
  obtain ⟨vx,h1,h2⟩:=Gm h hk
  obtain ⟨vi,h3,h4⟩:=Gm h h1
  obtain ⟨r,u,h5,h6,h7⟩:=index_spec hτ h3 h2 h4
  exact ⟨_,u,h5,h7,fun w' _=>by simp [execOp,e,h6]⟩
 ·rename_i t i e
  obtain ⟨v,h1,h2⟩:=Gm h hk
  split at h1
  ·rename_i vs
   obtain ⟨p,h3,h4⟩:=Jz _ _ _ h1
   obtain ⟨us,e1,h5⟩:=h2
   obtain ⟨u,h6,h7⟩:=h5.get _ _ h3
   exact ⟨_,u,h4,RV.toAV h7,fun w' _=>by simp [execOp,e,Instr.extract,e1,h6]⟩
  ·exact h1.elim
 ·rename_i c e
  split at hk
  ·rename_i hc
   split at hk
   ·rename_i x t hx ht
    obtain ⟨vx,h1,h2⟩:=Gf h hk
    obtain ⟨r,u,h3,h4,h5⟩:=len_spec hτ (ty:=o.type) h h1 h2
    have hx':c.args = #[x]:=by rw [← hx]
    have ht':c.argTypes = #[t]:=by rw [← ht]
    exact ⟨_,u,h3,h5,fun w' _=>by simp [execOp,e,resolve,hc,hx',ht',invoke,builtin,h4]⟩
   ·exact hk.elim
  ·rename_i hc
   obtain ⟨vs,h1,h2⟩:=Lu h _ _ hk
   obtain ⟨r,u,h3,h4,h5⟩:=mxCV_run (P:=P) h1 h2 c.argTypes o.type
   simp only [if_true] at h4
   have ha:c.args.map a.eval=⟨c.args.toList.map a.eval⟩:=by apply Array.ext';simp
   exact ⟨_,u,h3,h5,fun w' _=>by simp [execOp,e,resolve,hc,invoke,builtin,ha,h4 w']⟩
  ·rename_i hc
   obtain ⟨vs,h1,h2⟩:=Lu h _ _ hk
   obtain ⟨r,u,h3,h4,h5⟩:=mxCV_run (P:=P) h1 h2 c.argTypes o.type
   simp only [Bool.false_eq_true,if_false] at h4
   have ha:c.args.map a.eval=⟨c.args.toList.map a.eval⟩:=by apply Array.ext';simp
   exact ⟨_,u,h3,h5,fun w' _=>by simp [execOp,e,resolve,hc,invoke,builtin,ha,h4 w']⟩
  ·exact hk.elim
 ·exact hk.elim
end
section
variable {P:Program} {ops:Array Oper} {Q:Exit→Act→World→Prop} {md:Region.Mode} {M:Nat→World→World→Prop}
def wpAnyR (P:Program) (md:Region.Mode) (ops:Array Oper) (Q:Exit→Act→World→Prop) (M:Nat→World→World→Prop):Nat→Array Bool→Act→World→Prop
 | 0,listed,a,w=>Region.ready md ops listed=[]∧Q .normal a w
 | fuel+1,listed,a,w=>
  (Region.ready md ops listed=[]→Q .normal a w)∧
  ∀ i ∈ Region.ready md ops listed,wpOp P ops Q i (fun a' w'=>M i w w'∧wpAnyR P md ops Q M fuel (listed.setIfInBounds i true) a' w') a w
theorem wpAny_of_R:∀ (fuel:Nat) (listed:Array Bool) (a:Act) (w:World),wpAnyR P md ops Q M fuel listed a w→wpAny P md ops Q fuel listed a w
 | 0,_,_,_,h=>h
 | fuel+1,_,_,_,h=>⟨h.1,fun i hi=>wpOp_mono (fun a' w' h'=>wpAny_of_R fuel _ a' w' h'.2) (h.2 i hi)⟩
theorem wpAnyR_first {i:Nat} {oi:Oper} {v:Value} {S:World→Prop} (hi:ops[i]?=some oi) (hsel:∀ (j:Nat) (o:Oper) cs b,ops[j]?=some o→o.op≠.select cs b)
  (hQ:∀ c a w,Q (.panic c) (a.put oi.dst v) w→Q (.panic c) a w) (hMi:∀ w,M i w w) :
  ∀ (fuel:Nat) (listed:Array Bool) (a:Act) (w:World),
   (∀ j oj,ops[j]?=some oj→j≠i→listed.getD j true=false→(∀ e ∈ oj.after,Region.binds md e=true→e.on≠i)→oi.apart ops oj=true∧∀ w w',S w→M j w w'→S w')→
   i ∈ Region.ready md ops listed→YieldsIf P ops S oi v a→S w→
   wpAnyR P md ops Q M fuel (listed.setIfInBounds i true) (a.put oi.dst v) w→wpAnyR P md ops Q M (fuel+1) listed a w:=by
 intro fuel
 induction fuel with
 | zero=>
  intro listed a w _ hr hy hS H
  refine ⟨fun h=>(by rw [h] at hr;cases hr),fun j hj=>?_⟩
  by_cases hji:j=i
  ·subst hji;exact hy.wpOp hi hS ⟨hMi w,H⟩
  ·have:=ready_mono hj hji
   rw [H.1] at this
   cases this
 | succ fuel ih=>
  intro listed a w hfree hr hy hS H
  refine ⟨fun h=>(by rw [h] at hr;cases hr),fun j hj=>?_⟩
  by_cases hji:j=i
  ·subst hji;exact hy.wpOp hi hS ⟨hMi w,H⟩
  ·have h1:=H.2 j (ready_mono hj hji)
   obtain ⟨hjun,oj,hoj,hall⟩:=mem_ready.1 hj
   have hnot:∀ e ∈ oj.after,Region.binds md e=true→e.on≠i:=fun e he hb heq=>by
    have h1:=hall e he hb
    have h0:=(mem_ready.1 hr).1
    rw [heq] at h1
    rcases Nat.lt_or_ge i listed.size with h' | h'
    ·simp [h'] at h0 h1;rw [h0] at h1;cases h1
    ·simp [Array.getElem?_eq_none h'] at h1
   obtain ⟨hap,hst⟩:=hfree j oj hoj hji hjun hnot
   have h2:=wpOp_putIf hoj hap (fun cs b=>hsel i oi cs b hi) (fun cs b=>hsel j oj cs b hoj) hQ hy h1
   have hfree':∀ k ok,ops[k]?=some ok→k≠i→(listed.setIfInBounds j true).getD k true=false→
     (∀ e ∈ ok.after,Region.binds md e=true→e.on≠i)→oi.apart ops ok=true∧∀ w w',S w→M k w w'→S w':=fun k ok hk hki hun hno=>by
    refine hfree k ok hk hki ?_ hno
    by_cases hjk:j=k
    ·subst hjk;exact hjun
    ·rw [_root_.Go.getD_set_ne true hjk] at hun;exact hun
   refine wpOp_mono (fun a' w' h3=>⟨h3.2.1,ih (listed.setIfInBounds j true) a' w' hfree' (ready_mono hr (Ne.symm hji)) h3.1 (hst w w' hS h3.2.1) ?_⟩) h2
   rw [Array.setIfInBounds_comm _ _ hji]
   exact h3.2.2
end
end Go.AM
