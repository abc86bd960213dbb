
import Derived.Test.YtokgamncgleelaaGreatAmT
set_option linter.unusedVariables false
set_option linter.unusedSimpArgs false
namespace Go.AM
def toSh (e:Nat) (s:St) (J:Sh):Prop:=∃ hs,setK hs s (fun s=>∃ os,openK os s (fun s=>∃ ns,nilK ns s (fun s=>∃ ids,pubK ids s (fun s=>∃ ρ,(renB J.nx ρ []&&protB e ρ&&Nat.ble e J.nx)=true∧Weak ρ s J))))
def toE (e:Nat) (x:Nat) (E:List (Nat×Sh)) (s:St):Prop:=match lk E x with
 | some J=>toSh e s J
 | none=>False
def allP {α:Type} (p:α→Prop):List α→Prop
 | []=>True
 | x::r=>p x∧allP p r
def vc (P:Program) (τ:TE) (nt e:Nat):Code→(Nat→St→Prop)→St→Prop
 | .skip,K,s=>K 0 s
 | .region _ ops false,K,s=>vcL P τ nt ops.toList ops.toList s (K 0)
 | .region _ ops true,K,s=>∃ (t:OT) (mods:List (Nat×List Nat)) (ids:List Nat),(edgesB ops.toList&&noSelB ops.toList)=true∧pubK ids s (fun s=>vcT P τ nt ops.toList mods t none (upTo 0 ops.size) [] s (K 0))
 | .seq a b,K,s=>
  vc P τ nt e a (fun x s=>match Nat.beq x 0 with
   | true=>vc P τ nt e b K s
   | false=>K x s) s∨
  ∃ E:List (Nat×Sh),vc P τ nt e a (fun x s=>toE e x E s) s∧allP (fun q:Nat×Sh=>match Nat.beq q.1 0 with
   | true=>vc P τ nt e b K q.2.st
   | false=>K q.1 q.2.st) E
 | .cond c a b,K,s=>match ev s c with
  | some (.one (.d .bool β))=>(β=true→vc P τ nt e a K s)∧(β=false→vc P τ nt e b K s)
  | _=>False
 | .block i c,K,s=>vc P τ nt e c (fun x s=>match Nat.beq x (i+2) with
  | true=>K 0 s
  | false=>K x s) s
 | .exit i,K,s=>K (i+2) s
 | .ret,K,s=>K 1 s
 | .loop c,K,s=>∃ (X Z:Type) (J:X→Sh) (E:Z→List (Nat×Sh)) (L:Nat→X→Option Z) (n:Nat) (x:X) (z:Z),L n x=some z∧toSh e s (J x)∧
   (∀ x z,L 0 x=some z→False)∧
   (∀ m x z,L (m+1) x=some z→vc P τ nt e c (fun q s=>match Nat.beq q 0 with
    | true=>∃ x',L m x'=some z∧toSh e s (J x')
    | false=>toE e q (E z) s) (J x).st)∧
   allP (fun q:Nat×Sh=>match Nat.beq q.1 0 with
    | true=>False
    | false=>K q.1 q.2.st) (E z)
 | _,_,_=>False
def exitOf:Nat→Exit
 | 0=>.normal
 | 1=>.ret
 | n+2=>.exit n
def resK1 (τ:TE) (s:St):ResultVar→(AV→Prop)→Prop
 | .tmp t,k=>match lk s.env t with
  | some v=>k v
  | none=>False
 | .cell t T,k=>match lk s.env t with
  | some (.one y)=>loadK τ T s y k
  | _=>False
def resK (τ:TE) (s:St):List ResultVar→(List AV→Prop)→Prop
 | [],k=>k []
 | r::l,k=>resK1 τ s r (fun v=>resK τ s l (fun vs=>k (v::vs)))
def retK (τ:TE) (C:Con) (rs:List ResultVar) (y:C.Y) (x:Nat) (s:St):Prop:=match Nat.ble x 1 with
 | true=>resK τ s rs (fun avs=>Nat.beq rs.length (C.ret y).length=true∧toSh C.e { s with env:=K4 0 avs } (C.shOut y))
 | false=>False
section
variable {P:Program} {τ:TE} {G:Ctx} {φ:Phi} {s:St} {a:Act} {w:World} {nt:Nat}
theorem toSh_spec (h:Sat G φ s a w) {J:Sh} (hk:toSh G.e s J):∃ φ',Sat G φ' J.st a w:=by
 obtain ⟨hs,hk⟩:=hk
 obtain ⟨s0,⟨os,hk⟩,h,_⟩:=set_spec hs _ h hk
 obtain ⟨s01,⟨ns,hk⟩,h,_⟩:=open_spec os _ h hk
 obtain ⟨s02,⟨ids,hk⟩,h,_⟩:=nil_spec ns _ h hk
 obtain ⟨s1,⟨ρ,hb,hw⟩,h,_⟩:=J8 ids _ h hk
 simp only [Bool.and_eq_true] at hb
 exact h.weak hw hb.1.1 hb.1.2 (Nat.le_of_ble_eq_true hb.2)
theorem allP_spec {α:Type} {p:α→Prop}:∀ {l:List α},allP p l→∀ x ∈ l,p x
 | [],_,x,h=>by simp at h
 | y::l,h,x,hm=>by
  rcases List.mem_cons.1 hm with rfl | hm
  ·exact h.1
  ·exact allP_spec h.2 x hm
theorem toE_spec {e x:Nat} {E:List (Nat×Sh)} {s:St} (h:toE e x E s):∃ J,(x,J) ∈ E∧toSh e s J:=by
 unfold toE at h
 split at h
 ·rename_i J hJ;exact ⟨J,Lq hJ,h⟩
 ·exact h.elim
theorem exit_ne {x:Nat} (h:Nat.beq x 0=false) {α:Act→World→Prop} {Q:Exit→Act→World→Prop}:Exit.then α Q (exitOf x)=Q (exitOf x):=by
 match x,h with
 | 0,h=>cases h
 | 1,_=>rfl
 | n+2,_=>rfl
theorem exit_block {x i:Nat} (h:Nat.beq x (i+2)=false) {Q:Exit→Act→World→Prop}:Exit.inBlock i Q (exitOf x)=Q (exitOf x):=by
 match x,h with
 | 0,_=>rfl
 | 1,_=>rfl
 | n+2,h=>
  have:n≠i:=fun e=>by subst e;simp at h
  funext a w
  simp [exitOf,Exit.inBlock,this]
theorem vc_wp (hτ:τ.Ok P) (hm:P.follows .mixedOrders=true):∀ (c:Code) {s:St} {φ:Phi} {a:Act} {w:World} {K:Nat→St→Prop},Sat G φ s a w→nt≤a.tmps.size→vc P τ nt G.e c K s→
  ∀ {Q:Exit→Act→World→Prop},(∀ x s φ a w,K x s→Sat G φ s a w→nt≤a.tmps.size→Q (exitOf x) a w)→c.wp P Q a w
 | .skip,s,φ,a,w,K,h,hn,hk,Q,hQ=>wp_skip (hQ 0 s φ a w hk h hn)
 | .region id ops false,s,φ,a,w,K,h,hn,hk,Q,hQ=>by
  have:=vcL_wp hτ ops.toList (Q:=Q) h hn hk (fun s' φ' a' w' q1 q2 q3=>hQ 0 s' φ' a' w' q1 q2 q3)
  exact wp_region_list this
 | .region id ops true,s,φ,a,w,K,h,hn,hk,Q,hQ=>by
  obtain ⟨t,mods,ids,hb,hk⟩:=hk
  obtain ⟨s1,hk,h,_⟩:=J8 ids _ h hk
  exact vcT_region hτ hm h hn hb hk (fun s φ a w q1 q2 q3=>hQ 0 s φ a w q1 q2 q3)
 | .seq c d,s,φ,a,w,K,h,hn,hk,Q,hQ=>by
  apply wp_seq
  rcases hk with hk | ⟨E,hk,hE⟩
  ·refine vc_wp hτ hm c h hn hk (fun x s φ a w q1 q2 q3=>?_)
   split at q1
   ·rename_i hx
    have:=Nat.eq_of_beq_eq_true hx
    subst this
    exact vc_wp hτ hm d q2 q3 q1 hQ
   ·rename_i hx
    rw [exit_ne hx]
    exact hQ x s φ a w q1 q2 q3
  ·refine vc_wp hτ hm c h hn hk (fun x s φ a w q1 q2 q3=>?_)
   obtain ⟨J,hJ,q1⟩:=toE_spec q1
   obtain ⟨φ',q2⟩:=toSh_spec q2 q1
   have:=allP_spec hE _ hJ
   dsimp only at this
   split at this
   ·rename_i hx
    have hx:=Nat.eq_of_beq_eq_true hx
    subst hx
    exact vc_wp hτ hm d q2 q3 this hQ
   ·rename_i hx
    rw [exit_ne hx]
    exact hQ x J.st φ' a w this q2 q3
 | .cond c x y,s,φ,a,w,K,h,hn,hk,Q,hQ=>by
  simp only [vc] at hk
  split at hk
  ·rename_i β hβ
   have hb:a.eval c = .bool β:=Je (w:=w) (im:=G.im s φ) (φ:=φ) (ln:=s.ln) (nx:=s.nx) (Lv h hβ)
   exact wp_cond_split hb (fun e=>vc_wp hτ hm x h hn (hk.1 e) hQ) (fun e=>vc_wp hτ hm y h hn (hk.2 e) hQ)
  ·exact hk.elim
 | .block i c,s,φ,a,w,K,h,hn,hk,Q,hQ=>by
  apply wp_block
  refine vc_wp hτ hm c h hn hk (fun x s φ a w q1 q2 q3=>?_)
  split at q1
  ·rename_i hx
   have:=Nat.eq_of_beq_eq_true hx
   subst this
   simp only [exitOf,Exit.inBlock,if_true]
   exact hQ 0 s φ a w q1 q2 q3
  ·rename_i hx
   rw [exit_block hx]
   exact hQ x s φ a w q1 q2 q3
 | .exit i,s,φ,a,w,K,h,hn,hk,Q,hQ=>wp_exit (hQ (i+2) s φ a w hk h hn)
 | .ret,s,φ,a,w,K,h,hn,hk,Q,hQ=>wp_ret (hQ 1 s φ a w hk h hn)
 | .loop c,s,φ,a,w,K,h,hn,hk,Q,hQ=>by
  obtain ⟨X,Z,J,E,L,n,x,z,hL,hJ,h0,hstep,hE⟩:=hk
  have hround:∀ m x a w,L (m+1) x=some z→(∃ φ,Sat G φ (J x).st a w)→nt≤a.tmps.size→
    c.wp P (Exit.then (fun a' w'=>(∃ x',L m x'=some z∧∃ φ,Sat G φ (J x').st a' w')∧nt≤a'.tmps.size) Q) a w:=fun m x a w hx ⟨φ,hS⟩ hn=>by
   refine vc_wp hτ hm c hS hn (hstep m x z hx) (fun q s φ a w q1 q2 q3=>?_)
   split at q1
   ·rename_i hq
    have:=Nat.eq_of_beq_eq_true hq
    subst this
    obtain ⟨x',h1,h2⟩:=q1
    exact ⟨⟨x',h1,toSh_spec q2 h2⟩,q3⟩
   ·rename_i hq
    rw [exit_ne hq]
    obtain ⟨J',hJ',q1⟩:=toE_spec q1
    obtain ⟨φ',q2⟩:=toSh_spec q2 q1
    have:=allP_spec hE _ hJ'
    dsimp only at this
    rw [hq] at this
    exact hQ q J'.st φ' a w this q2 q3
  intro b k cs
  have key:∀ m x a w,L m x=some z→(∃ φ,Sat G φ (J x).st a w)→nt≤a.tmps.size→
    ∃ e a' w',Q e a' w'∧Arrives P (lone (b.at a (.code c::.inLoop c::k)) cs w) b k cs e a' w':=by
   intro m
   induction m with
   | zero=>intro x a w hx _ _;exact (h0 x z hx).elim
   | succ m ih=>
    intro x a w hx hS hn
    obtain ⟨e,a₁,w₁,hq,harr⟩:=hround m x a w hx hS hn b (.inLoop c::k) cs
    cases e with
    | normal=>
     obtain ⟨⟨x',h1,h2⟩,h3⟩:=hq
     obtain ⟨e₂,a₂,w₂,hq₂,harr₂⟩:=ih x' a₁ w₁ h1 h2 h3
     exact ⟨e₂,a₂,w₂,hq₂,.of_steps (Steps.trans harr (.one step_inLoop)) harr₂⟩
    | exit id=>exact ⟨_,a₁,w₁,hq,.pass (x:=.inLoop c) rfl (fun _ _=>.inl (by simp)) harr⟩
    | goto l=>exact ⟨_,a₁,w₁,hq,.pass (x:=.inLoop c) rfl (fun _ _=>.inl (by simp)) harr⟩
    | ret=>exact ⟨_,a₁,w₁,hq,.pass (x:=.inLoop c) rfl (fun _ _=>.inl (by simp)) harr⟩
    | panic ch=>exact ⟨_,a₁,w₁,hq,.pass (x:=.inLoop c) rfl (fun _ _=>.inl (by simp)) harr⟩
    | outgrown=>exact ⟨_,a₁,w₁,hq,.pass (x:=.inLoop c) rfl (fun _ _=>.inl (by simp)) harr⟩
  obtain ⟨e,a',w',hq,harr⟩:=key n x a w hL (toSh_spec h hJ) hn
  exact ⟨e,a',w',hq,.of_steps (.one step_loop) harr⟩
 | .rangeFunc ..,s,φ,a,w,K,h,hn,hk,Q,hQ=>hk.elim
 | .scope ..,s,φ,a,w,K,h,hn,hk,Q,hQ=>hk.elim
 | .label ..,s,φ,a,w,K,h,hn,hk,Q,hQ=>hk.elim
 | .goto ..,s,φ,a,w,K,h,hn,hk,Q,hQ=>hk.elim
 | .refuse ..,s,φ,a,w,K,h,hn,hk,Q,hQ=>hk.elim
def ResultVar.look (P:Program) (tmps:Array Value):ResultVar→Sem Value
 | .tmp t=>pure (tmps.getD t undef)
 | .cell a t=>do loadVar t (← asAddr (tmps.getD a undef))
theorem loadVar_of_at {t:TypeId} {v u:Value} {w:World} (h:(Instr.loadAt t v).run P w = .ok u w):(do loadVar t (← asAddr v):Sem Value).run P w = .ok u w:=by
 cases v with
 | pointer o=>
  cases o with
  | none=>simp [Instr.loadAt,Instr.sureAddr] at h
  | some x=>simpa [Instr.loadAt,Instr.sureAddr,asAddr] using h
 | _=>simp [Instr.loadAt,Instr.sureAddr] at h
theorem resK1_spec (hτ:τ.Ok P) (h:Sat G φ s a w) {r:ResultVar} {k:AV→Prop} (hk:resK1 τ s r k) :
  ∃ v u,k v∧v.relR (CV.rel w (G.im s φ) φ s.ln s.nx) u∧(ResultVar.look P a.tmps r).run P w = .ok u w:=by
 unfold resK1 at hk
 split at hk
 ·split at hk
  ·rename_i t _ v hv
   exact ⟨v,_,hk,(h.env t v hv).2,by simp [ResultVar.look]⟩
  ·exact hk.elim
 ·split at hk
  ·rename_i t T _ y hv
   obtain ⟨r,u,h1,h2,h3⟩:=load_spec hτ h hk (h.env t _ hv).2
   exact ⟨r,u,h1,h3,loadVar_of_at (h2 w (fun _ _ _=>rfl))⟩
  ·exact hk.elim
theorem resK_spec (hτ:τ.Ok P) (h:Sat G φ s a w):∀ {rs:List ResultVar} {k:List AV→Prop},resK τ s rs k→
  ∃ vs us,k vs∧All2 (AV.relR (CV.rel w (G.im s φ) φ s.ln s.nx)) vs us∧(rs.mapM (ResultVar.look P a.tmps)).run P w = .ok us w∧us.length=rs.length
 | [],k,hk=>⟨[],[],hk,.nil,by simp,rfl⟩
 | r::rs,k,hk=>by
  obtain ⟨v,u,h1,h2,h3⟩:=resK1_spec hτ h hk
  obtain ⟨vs,us,h4,h5,h6,h7⟩:=resK_spec hτ h h1
  exact ⟨v::vs,u::us,h4,.cons h2 h5,by simp [List.mapM_cons,h3,h6],by simp [h7]⟩
theorem results_list {fn:Func} {tmps:Array Value} {us:List Value} (h:(fn.results.toList.mapM (ResultVar.look P tmps)).run P w = .ok us w):(results fn tmps).run P w = .ok (retV us) w:=by
 have e:(results fn tmps)=(do let vs ← fn.results.mapM (ResultVar.look P tmps);pure (if h:vs.size=1 then vs[0] else .tuple vs)):=by
  unfold results
  congr 1
 rw [e,Array.mapM_eq_mapM_toList]
 simp only [map_eq_pure_bind,bind_assoc,pure_bind,Sem.run_bind,h,Result.andThen_ok,Sem.run_pure]
 rcases us with _ | ⟨x,_ | ⟨y,r⟩⟩ <;> rfl
theorem enumA_get:∀ {avs:List AV} {us:List Value} {R:CV→Value→Prop},All2 (AV.relR R) avs us→∀ n i v,lk (K4 n avs) i=some v→n≤i∧i-n<us.length∧v.relR R (us.getD (i-n) undef)
 | _,_,R,.nil,n,i,v,h=>by simp [K4] at h
 | _,_,R,.cons (x:=x) (xs:=xs) (y:=y) (ys:=ys) h1 h2,n,i,v,h=>by
  simp only [K4,Gr] at h
  split at h
  ·rename_i e
   subst e
   cases h
   simpa using h1
  ·rename_i e
   obtain ⟨q1,q2,q3⟩:=enumA_get h2 (n+1) i v h
   have e3:i-n=(i-(n+1))+1:=by omega
   refine ⟨by omega,by rw [e3];simpa using q2,?_⟩
   rw [e3]
   simpa using q3
theorem hV (hτ:τ.Ok P) (hm:P.follows .mixedOrders=true) {f:FuncId} {fn:Func} {c:Code} (hf:P.funcs[f]?=some fn) (hb:fn.body=some c) (C:Con)
  (H:∀ x y,C.F x=some y→vc P τ fn.ntmps C.e c (retK τ C fn.results.toList y) (C.shIn x).st):C.Holds P f:=by
 intro x y hxy w im φ hg vs _ hS
 refine calls_of_wp hf hb ?_
 have hS':Sat (C.ctx x w im φ hg) φ (C.shIn x).st { tmps:=(⟨vs⟩:Array Value)++Array.replicate (fn.ntmps-(⟨vs⟩:Array Value).size) undef,defers:=[] } w:=by
  refine hS.frame' rfl (fun i v hi=>?_)
  obtain ⟨h1,h2⟩:=hS.env i v hi
  have h1':i<vs.length:=by simpa using h1
  refine ⟨by simp;omega,?_⟩
  have e:((⟨vs⟩:Array Value)++Array.replicate (fn.ntmps-(⟨vs⟩:Array Value).size) undef).getD i undef=(⟨vs⟩:Array Value).getD i undef:=by
   simp [Array.getD_eq_getD_getElem?,Array.getElem?_append,h1']
  dsimp only
  rw [e]
  exact h2
 refine vc_wp hτ hm c hS' (by simp;omega) (H x y hxy) (fun q s φ' a w' hk h2 hn=>?_)
 unfold retK at hk
 split at hk
 ·rename_i hq
  have hq:=Nat.le_of_ble_eq_true hq
  obtain ⟨avs,us,⟨hlen,hsh⟩,hrel,hrun,hus⟩:=resK_spec hτ h2 hk
  have hres:(results fn a.tmps).run P w' = .ok (retV us) w':=results_list hrun
  have h3:Sat (C.ctx x w im φ hg) φ' { s with env:=K4 0 avs } ⟨⟨us⟩,[]⟩ w':=h2.frame' rfl (fun i v hi=>by
   obtain ⟨q1,q2,q3⟩:=enumA_get hrel 0 i v hi
   refine ⟨by simpa using q2,?_⟩
   simpa [Array.getD_eq_getD_getElem?,List.getD] using q3)
  obtain ⟨φ2,h4⟩:=toSh_spec h3 hsh
  have hul:us.length=(C.ret y).length:=hus.trans (Nat.eq_of_beq_eq_true hlen)
  have fin:a.defers=[]∧∃ v,(results fn a.tmps).run P w' = .ok v w'∧(∃ us φ',Ending.returned v = .returned (retV us)∧us.length=(C.ret y).length∧Sat (C.ctx x w im φ hg) φ' (C.shOut y).st ⟨⟨us⟩,[]⟩ w'):=
   ⟨h2.df,_,hres,us,φ2,rfl,hul,h4⟩
  match q,hq with
  | 0,_=>exact fin
  | 1,_=>exact fin
  | n+2,hq=>omega
 ·exact hk.elim
end
end Go.AM
