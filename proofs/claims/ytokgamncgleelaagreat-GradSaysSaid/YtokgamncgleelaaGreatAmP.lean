
import Derived.Test.YtokgamncgleelaaGreatAmOv
import Derived.Test.YtokgamncgleelaaGreatAmKw
import Derived.Test.YtokgamncgleelaaGreatAmKh
import Derived.Shelf.Bodies
import Derived.Laws.BytesArg
set_option linter.unusedVariables false
set_option linter.unusedSimpArgs false
namespace Go.AM
def evK (s:St) (x:Operand) (k:AV→Prop):Prop:=match ev s x with
 | some v=>k v
 | none=>False
def ev1 (s:St) (x:Operand) (k:CV→Prop):Prop:=match ev s x with
 | some (.one y)=>k y
 | _=>False
def evsL (s:St):List Operand→(List AV→Prop)→Prop
 | [],k=>k []
 | x::r,k=>evK s x (fun v=>evsL s r (fun l=>k (v::l)))
def ExtI (P:Program) (f:FuncId) (g:List Int→Option (List Int)):Prop:=
 ∀ (xs ys:List Int) (w:World),g xs=some ys→(callFunc f ⟨xs.map (Value.int .u64)⟩).run P w = .ok (.value (retV (ys.map (Value.int .u64)))) w
def intsK:List AV→(List Int→Prop)→Prop
 | [],k=>k []
 | .one (.d (.int .u64) n)::r,k=>intsK r (fun l=>k (n::l))
 | _,_=>False
def extR:List Int→AV
 | [n]=>.one (.d (.int .u64) n)
 | ns=>.tup (ns.map (fun n=>(false,[CV.d (.int .u64) n])))
def sliceK (τ:TE) (T:TypeId) (s:St) (x:CV) (lo hi:Option Operand) (k:AV→St→List Nat→Prop):Prop:=
 match lk τ T with
 | some j=>match j.desc,x with
  | .string,.d .str b=>evI s lo (fun l=>evI s hi (fun n=>strCut b l n (fun r=>k (.one r) s [])))
  | .slice e,.d (.sl t') xs=>match lk τ e with
   | some ie=>match ie.ty with
    | some t=>Ty.eqK (.sl t) (.sl t') xs (fun ys=>evI s lo (fun l=>evI s hi (fun n=>cutC ys l n (fun r=>k (.one r) s []))))
    | none=>False
   | none=>False
  | .slice e,.osl id=>(match lk τ e with
   | some ie=>match ie.ty with
    | some t=>pubK [id] s (fun s1=>match s1.at id with
     | some (.pub _ t' xs)=>Ty.eqK (.sl t) (.sl t') xs (fun ys=>evI s lo (fun l=>evI s hi (fun n=>cutC ys l n (fun r=>k (.one r) s1 []))))
     | _=>False)
    | none=>False
   | none=>False)∨winK τ e s id lo hi (fun r=>k (.one r) s [])∨shortK τ e s id lo hi k
  | _,_=>False
 | none=>False
def nilIfK (τ:TE) (op:BinOp) (t:TypeId) (y:Operand) (k:CV→Prop):Prop:=
 match y with
 | .const .nilIface=>match isIface τ t with
  | true=>Km op true k
  | false=>False
 | _=>False
def eqAgg3K (P:Program) (τ:TE) (op:BinOp) (t:TypeId) (x y:List CV) (k:CV→Prop):Prop:=
 match x,y with
 | [.d .str a,.d (.int kb) b,.d (.int kc) c],[.d .str a',.d (.int kb') b',.d (.int kc') c']=>match lk τ t with
  | some i=>match i.desc with
   | .struct ⟨[f1,f2,f3]⟩=>match lk τ f1.type,lk τ f2.type,lk τ f3.type with
    | some i1,some i2,some i3=>match i1.desc,i2.desc,i3.desc with
     | .string,.int _,.int _=>match (Nat.beq f1.offset 0&&(Nat.beq f2.offset 1&&Nat.beq f3.offset 2))&&(IntKind.same kb kb'&&IntKind.same kc kc') with
      | true => (P.eqGuardType P.depth t = false ∧ P.stoodInHeld t = false ∧ f1.name ≠ "_" ∧ f2.name ≠ "_" ∧ f3.name ≠ "_") ∧ Km op (ByteArray.toList a == ByteArray.toList a' && (b == b' && c == c')) k
      | false=>False
     | _,_,_=>False
    | _,_,_=>False
   | _=>False
  | none=>False
 | _,_=>False
def eqAggK (P:Program) (τ:TE) (op:BinOp) (t:TypeId) (x y:AV) (k:CV→Prop):Prop:=
 match x,y with
 | .agg [.d (.int ka) a,.d (.int kb) b],.agg [.d (.int ka') a',.d (.int kb') b']=>match lk τ t with
  | some i=>match i.desc with
   | .struct ⟨[f1,f2]⟩=>match lk τ f1.type,lk τ f2.type with
    | some i1,some i2=>match i1.desc,i2.desc with
     | .int _,.int _=>match Nat.beq f1.offset 0&&Nat.beq f2.offset 1&&(IntKind.same ka ka'&&IntKind.same kb kb') with
      | true => (P.eqGuardType P.depth t = false ∧ P.stoodInHeld t = false ∧ f1.name ≠ "_" ∧ f2.name ≠ "_") ∧ Km op (a == a' && b == b') k
      | false=>False
     | _,_=>False
    | _,_=>False
   | _=>False
  | none=>False
 | .agg xs,.agg ys=>eqAgg3K P τ op t xs ys k
 | _,_=>False
def convK (τ:TE) (s:St) (src dst:TypeId) (x:CV) (k:CV→Prop):Prop:=
 match x with
 | .osl id=>match s.at id with
  | some (.arr _ t xs)=>match lk τ src,lk τ dst with
   | some j,some i=>match j.desc,i.desc with
    | .slice e,.string=>match lk τ e with
     | some ie=>match ie.desc with
      | .int .u8=>Ty.eqK (.sl (.int .u8)) (.sl t) xs (fun ys=>k (.d .str (strOfNums ys)))
      | _=>False
     | none=>False
    | _,_=>False
   | _,_=>False
  | _=>False
 | x=>convCV τ src dst x k
def vcOp (P:Program) (τ:TE) (o:Oper) (s:St) (k:Option AV→St→List Nat→Prop):Prop:=
 match o.op with
 | .move x=>evK s x (fun v=>k (some v) s [])
 | .assign x=>evK s x (fun v=>k (some v) s [])
 | .pick c a b=>match ev s c with
  | some (.one (.d .bool β))=>(β=true→evK s a (fun v=>k (some v) s []))∧(β=false→evK s b (fun v=>k (some v) s []))
  | _=>False
 | .alloc e=>allocK τ e s (fun v s' m=>k (some v) s' m)
 | .box _ x=>evK s x (fun v=>boxK s v (fun v s' m=>k (some v) s' m))
 | .build t ps=>buildK τ t s ps.toList (fun v=>k (some v) s [])
 | .buildSlice t n ps=>litK τ t s n ps.toList (fun v s' m=>k (some v) s' m)∨litHK τ t s n ps.toList (fun v s' m=>k (some v) s' m)
 | .load t x=>ev1 s x (fun y=>loadK τ t s y (fun v=>k (some v) s []))
 | .store t x y=>ev1 s x (fun x=>evK s y (fun y=>storeK τ t s x y (fun s' m=>k none s' m)∨storeHK τ t s x y (fun s' m=>k none s' m)))
 | .nilCheck x=>ev1 s x (fun y=>match y with
  | .ptr _ _=>k (some (.one y)) s []
  | .ep _ _ _ _=>k (some (.one y)) s []
  | .ip _ _ _=>k (some (.one y)) s []
  | _=>False)
 | .binOp op t x y _=>match ev s x with
  | some (.agg cs)=>evK s y (fun y=>eqAggK P τ op t (.agg cs) y (fun r=>k (some (.one r)) s []))
  | some (.one (.c .nilIface))=>nilIfK τ op t y (fun r=>k (some (.one r)) s [])
  | _=>ev1 s x (fun x=>ev1 s y (fun y=>binCV τ op t x y (fun r=>k (some (.one r)) s [])))
 | .unOp op _ x=>ev1 s x (fun x=>unCV op x (fun r=>k (some (.one r)) s []))
 | .convert src dst x=>ev1 s x (fun x=>convK τ s src dst x (fun r=>k (some (.one r)) s []))
 | .makeSlice t l c=>evK s l (fun l=>evK s c (fun c=>mkK τ t s l c (fun v s' m=>k (some v) s' m)))
 | .slice t x lo hi none=>ev1 s x (fun x=>sliceK τ t s x lo hi (fun v s' m=>k (some v) s' m))
 | .fieldAddr S x f=>ev1 s x (fun x=>fldK τ S x f (fun r=>k (some (.one r)) s []))
 | .field S x f=>evK s x (fun x=>fieldK τ S x f (fun r=>k (some r) s []))
 | .indexAddr t x ix=>ev1 s x (fun x=>ev1 s ix (fun ix=>ixK τ t s x ix (fun r=>k (some (.one r)) s [])))
 | .index t x ix=>evK s x (fun x=>evK s ix (fun ix=>indexK τ t x ix (fun r=>k (some r) s [])))
 | .extract t i=>evK s t (fun v=>match v with
  | .tup vs=>nth vs i (fun p=>k (some (toAV p)) s [])
  | _=>False)
 | .call c=>match c.callee with
  | .builtin .len=>match c.args.toList,c.argTypes.toList with
   | [x],[t]=>ev1 s x (fun x=>lenK τ t s x (fun r=>k (some (.one r)) s []))
   | _,_=>False
  | .builtin .append=>match c.args.toList,c.argTypes.toList with
   | [x,y],[t,t']=>ev1 s x (fun x=>ev1 s y (fun y=>appK τ t t' s x y (fun v s' m=>k (some v) s' m)∨appHK τ t t' s x y (fun v s' m=>k (some v) s' m)))
   | _,_=>False
  | .builtin .copy=>match c.args.toList,c.argTypes.toList with
   | [x,y],[t,t']=>ev1 s x (fun x=>ev1 s y (fun y=>copyK τ t t' s x y (fun v s' m=>k (some v) s' m)))
   | _,_=>False
  | .builtin .max=>evsL s c.args.toList (fun xs=>mxCV true xs (fun r=>k (some (.one r)) s []))
  | .builtin .min=>evsL s c.args.toList (fun xs=>mxCV false xs (fun r=>k (some (.one r)) s []))
  | .value f=>match ev s f with
   | some (.one (.c (.func (.func n) ⟨[]⟩ ⟨[]⟩)))=>evsL s c.args.toList (fun xs=>
     ((∃ fn, P.funcs[n]? = some fn ∧ fn.body.isSome = true ∧ (fn.name == "runtime.NumGoroutine") = false) ∧ callV P n s xs (fun v s' m => k (some v) s' m)) ∨
     (∃ g ys,ExtI P n g∧intsK xs (fun ns=>g ns=some ys∧k (some (extR ys)) s [])))
   | _=>False
  | _=>False
 | _=>False
def optRel (R:CV→Value→Prop):Option AV→Value→Prop
 | some v,u=>v.relR R u
 | none,u=>u=undef
section
variable {P:Program} {τ:TE} {G:Ctx} {φ:Phi} {s:St} {a:Act} {w:World}
theorem convK_run (hτ:τ.Ok P) (h:Sat G φ s a w) {src dst:TypeId} {x:CV} {vx:Value} {k:CV→Prop} (hk:convK τ s src dst x k) (hx:x.rel w (G.im s φ) φ s.ln s.nx vx) :
  ∃ r u,k r∧(convert src dst vx).run P w = .ok u w∧r.rel w (G.im s φ) φ s.ln s.nx u:=by
 unfold convK at hk
 split at hk
 ·rename_i id
  split at hk
  ·rename_i e0 t xs hat
   split at hk
   ·rename_i j i hj hi
    split at hk
    ·rename_i e hjd hid
     split at hk
     ·rename_i ie hie
      split at hk
      ·rename_i hied
       obtain ⟨ys,hk',e1,e2⟩:=Ty.eqK_spec hk
       cases e1
       cases e2
       have us:P.underlying src=some (.slice e):=hjd▸(hτ src j hj).und
       have ud:P.underlying dst=some .string:=hid▸(hτ dst i hi).und
       have ue:P.underlying e=some (.int .u8):=hied▸(hτ e ie hie).und
       refine ⟨_,.string (strOfNums ys),hk',?_,rfl⟩
       have hln:s.ln id=some ys.length:=by simp only [St.ln,hat];rfl
       obtain ⟨_,hc⟩:=h.heap id _ hat
       rcases hx.2.2 _ hln with ⟨b,cap,hφ,rfl⟩ | ⟨hφ,h0,rfl⟩
       ·rcases hc with ⟨hn,_⟩ | ⟨b',cap',hb,_,_,c,hcell,_,hrow⟩
        ·rw [hφ] at hn;cases hn
        ·rw [hφ] at hb;cases hb
         refine run_convert_bytes_arg w src e us ue b 0 ys.length cap ys rfl (fun i hi=>?_) dst ud
         obtain ⟨ds,hd1,hd2,hd3⟩:=hrow i hi
         have hd1:ds=[.int .u8 ys[i]]:=hd1
         subst hd1
         have:=hd3 0 (by simp)
         have hn1:(Ty.int IntKind.u8).n=1:=rfl
         rw [hn1,Nat.mul_one,Nat.add_zero] at this
         simp only [World.cell?,hcell,Nat.zero_add,Option.isSome_none,Bool.false_eq_true,if_false,this]
         simp [List.getD,hi]
       ·have e3:ys=[]:=List.length_eq_zero_iff.1 h0
        subst e3
        rw [run_convert_bytes_string w src dst e none 0 0 us ue ud]
        rfl
      ·exact hk.elim
     ·exact hk.elim
    ·exact hk.elim
   ·exact hk.elim
  ·exact hk.elim
 ·obtain ⟨r,u,h1,h2,h3⟩:=convCV_run hτ hk hx
  exact ⟨r,u,h1,h2 w,h3⟩
def J6 (G:Ctx) (φ:Phi) (s:St) (a:Act) (w:World) (k:Option AV→St→List Nat→Prop) (u:Value) (w':World):Prop:=
 ∃ v s' φ' m,k v s' m∧Sat G φ' s' a w'∧optRel (CV.rel w' (G.im s' φ') φ' s'.ln s'.nx) v u∧Eff G s s' φ φ' w w' m∧s'.env=s.env
theorem Done.next {k:Option AV→St→List Nat→Prop} {u:Value} {w':World} (h:Done G φ s a w (fun v s' m=>k (some v) s' m) u w'):J6 G φ s a w k u w':=
 let ⟨v,s',φ',m,h1,h2,h3,h4,h5⟩:=h
 ⟨some v,s',φ',m,h1,h2,h3,h4,h5⟩
theorem J6.here (h:Sat G φ s a w) {k:Option AV→St→List Nat→Prop} {v:AV} {u:Value} (hk:k (some v) s []) (hv:v.relR (CV.rel w (G.im s φ) φ s.ln s.nx) u):J6 G φ s a w k u w:=
 ⟨some v,s,φ,[],hk,h,hv,Eff.refl G s φ w,rfl⟩
theorem Gm (h:Sat G φ s a w) {x:Operand} {k:AV→Prop} (hk:evK s x k):∃ v,k v∧v.relR (CV.rel w (G.im s φ) φ s.ln s.nx) (a.eval x):=by
 unfold evK at hk
 split at hk
 ·rename_i v hv;exact ⟨v,hk,Lv h hv⟩
 ·exact hk.elim
theorem Gf (h:Sat G φ s a w) {x:Operand} {k:CV→Prop} (hk:ev1 s x k):∃ v,k v∧CV.rel w (G.im s φ) φ s.ln s.nx v (a.eval x):=by
 unfold ev1 at hk
 split at hk
 ·rename_i v hv;exact ⟨v,hk,Lv h hv⟩
 ·exact hk.elim
theorem Lu (h:Sat G φ s a w):∀ (l:List Operand) (k:List AV→Prop),evsL s l k→∃ vs,k vs∧All2 (fun x v=>AV.relR (CV.rel w (G.im s φ) φ s.ln s.nx) x v) vs (l.map a.eval)
 | [],k,hk=>⟨[],hk,.nil⟩
 | x::r,k,hk=>by
  obtain ⟨v,h1,h2⟩:=Gm h hk
  obtain ⟨vs,h3,h4⟩:=Lu h r _ h1
  exact ⟨v::vs,h3,.cons h2 h4⟩
theorem ints_spec {w:World} {im:Nat→Prop} {φ:Phi} {ln:Nat→Option Nat} {nx:Nat}:∀ {xs:List AV} {vs:List Value} {k:List Int→Prop},intsK xs k→All2 (fun x v=>AV.relR (CV.rel w im φ ln nx) x v) xs vs→
  ∃ ns:List Int,k ns∧vs=ns.map (Value.int .u64)
 | [],_,k,hk,.nil=>⟨[],hk,rfl⟩
 | x::r,_,k,hk,.cons (y:=v) h1 h2=>by
  unfold intsK at hk
  split at hk
  ·rename_i e;cases e
  ·rename_i n r' e
   cases e
   obtain ⟨ns,h3,rfl⟩:=ints_spec hk h2
   exact ⟨n::ns,h3,by rw [av_int h1];rfl⟩
  ·exact hk.elim
theorem extR_rel {w:World} {im:Nat→Prop} {φ:Phi} {ln:Nat→Option Nat} {nx:Nat} (ns:List Int):(extR ns).relR (CV.rel w im φ ln nx) (retV (ns.map (Value.int .u64))):=by
 have aux:∀ ns:List Int,All2 (RV.rel (CV.rel w im φ ln nx)) (ns.map (fun n=>(false,[CV.d (.int .u64) n]))) (ns.map (Value.int .u64)):=by
  intro ns
  induction ns with
  | nil=>exact .nil
  | cons n ns ih=>exact .cons rfl ih
 match ns with
 | [n]=>exact rfl
 | []=>exact ⟨[],rfl,.nil⟩
 | n::m::r=>exact ⟨_,rfl,aux _⟩
theorem eqGuard_run (op:BinOp) (t:TypeId) (x y:Operand) {vx vy:Value} (h:vx≠.nilIface∧(∀ c,vx≠.agg c)) (w:World):(eqGuard op t x y vx vy).run P w = .ok () w:=by
 unfold eqGuard
 cases op <;> first
  | (simp;done)
  | (cases vx <;> first | exact absurd rfl h.1 | exact absurd rfl (h.2 _) | (simp;done))
theorem binCV_left {w:World} {im:Nat→Prop} {φ:Phi} {ln:Nat→Option Nat} {nx:Nat} {op:BinOp} {t:TypeId} {x y:CV} {vx:Value} {k:CV→Prop} (hk:binCV τ op t x y k) (hx:x.rel w im φ ln nx vx) :
  vx≠.nilIface∧∀ c,vx≠.agg c:=by
 unfold binCV at hk
 split at hk
 ·rw [Gj hx];exact ⟨by simp,by simp⟩
 ·rw [G7 hx];exact ⟨by simp,by simp⟩
 ·rw [Je hx];exact ⟨by simp,by simp⟩
 ·obtain ⟨_,b,cap,_,rfl⟩:=hx;exact ⟨by simp,by simp⟩
 ·obtain ⟨b,o,c,T,z,ds,rfl,_⟩:=hx;exact ⟨by simp,by simp⟩
 ·obtain ⟨rfl,_⟩:=hx;exact ⟨by simp,by simp⟩
 ·obtain ⟨A,cap,e1,_⟩:=hx
  cases e1;exact ⟨by simp,by simp⟩
 ·obtain ⟨rfl,_⟩:=hx;exact ⟨by simp,by simp⟩
 ·exact hk.elim
theorem slice_spec (hτ:τ.Ok P) (h:Sat G φ s a w) {T:TypeId} {x:CV} {vx:Value} {lo hi:Option Operand} {k:AV→St→List Nat→Prop} (hk:sliceK τ T s x lo hi k)
  (hx:CV.rel w (G.im s φ) φ s.ln s.nx x vx):∃ u,(Instr.sliceAt T vx (lo.map a.eval) (hi.map a.eval) none).run P w = .ok u w∧Done G φ s a w k u w:=by
 unfold sliceK at hk
 split at hk
 ·rename_i j hj
  split at hk
  ·rename_i b hd
   rw [G7 hx]
   obtain ⟨r,u,h1,h2,h3⟩:=strCut_spec hτ h hj hd hk
   exact ⟨u,h2 w,Done.value h h1 h3⟩
  ·rename_i e t' xs hd
   split at hk
   ·rename_i ie hie
    split at hk
    ·rename_i t ht
     obtain ⟨ys,hk',e1,e2⟩:=Ty.eqK_spec hk
     cases e1
     cases e2
     obtain ⟨r,u,h1,h2,h3⟩:=cut_spec hτ h hj hd hie ht hk' hx
     exact ⟨u,h2 w,Done.value h h1 h3⟩
    ·exact hk.elim
   ·exact hk.elim
  ·rename_i e id hd
   rcases hk with hk | hk | hk
   rotate_left
   ·obtain ⟨r,u,h1,h2,h3⟩:=win_spec hτ h hj hd hk hx
    exact ⟨u,h2 w,Done.value h h1 h3⟩
   ·exact short_spec hτ h hj hd hk hx
   split at hk
   ·rename_i ie hie
    split at hk
    ·rename_i t ht
     obtain ⟨s1,hk1,h1,m3,m4,m5,m6,m7,m8,_⟩:=J8 _ _ h hk
     split at hk1
     ·rename_i e' t' xs hat
      have hx1:=CV.rel_ext m7 hx
      have hxd:=h1.pub_data hat hx1
      obtain ⟨ys,hk',e1,e2⟩:=Ty.eqK_spec hk1
      cases e1
      cases e2
      have hevI:evI s1=evI s:=by
       funext x k
       unfold evI
       cases x with
       | none=>rfl
       | some x=>
        have:ev s1 x=ev s x:=by cases x <;> simp [ev,m3]
        simp only [this]
      obtain ⟨r,u,q1,q2,q3⟩:=cut_spec hτ h1 hj hd hie ht (lo:=lo) (hi:=hi) (k:=fun r=>k (.one r) s1 []) (by simp only [hevI];exact hk') hxd
      exact ⟨u,q2 w,_,s1,φ,[],q1,h1,q3,Eff.of_pub m4 m7,m3⟩
     ·exact hk1.elim
    ·exact hk.elim
   ·exact hk.elim
  ·exact hk.elim
 ·exact hk.elim
theorem Mc {t:TypeId} {k k':IntKind} (d:Nat) (a b:Int) (w:World) (hu:(underlying t).run P w = .ok (.int k') w):(Op.equalIn (d+1) t (.int k a) (.int k b)).run P w = .ok (a==b) w:=by
 simp [Op.equalIn,hu]
theorem equalIn_pair {t:TypeId} {f1 f2:Field} {k1 k2 l1 l2:IntKind} (d:Nat) (a b a' b':Int) (w:World) (hu:(underlying t).run P w = .ok (.struct #[f1,f2]) w) (hs:P.stoodInHeld t=false)
  (h1 : (underlying f1.type).run P w = .ok (.int l1) w) (h2 : (underlying f2.type).run P w = .ok (.int l2) w) (n1 : f1.name ≠ "_") (n2 : f2.name ≠ "_") (o1 : f1.offset = 0) (o2 : f2.offset = 1) 
  (p1:∀ cs:Array Value,∀ v,cs[0]?=some v→(part f1.type cs 0).run P w = .ok v w) (p2:∀ cs:Array Value,∀ v,cs[1]?=some v→(part f2.type cs 1).run P w = .ok v w) :
  (Op.equalIn (d+2) t (.agg ⟨[.int k1 a,.int k2 b]⟩) (.agg ⟨[.int k1 a',.int k2 b']⟩)).run P w = .ok (a==a'&&b==b') w:=by
 rw [Op.equalIn]
 simp only [Sem.run_bind,hu,Result.andThen_ok,run_program,hs]
 simp [n1,n2,o1,o2,p1 ⟨[.int k1 a,.int k2 b]⟩ (.int k1 a) rfl,p1 ⟨[.int k1 a',.int k2 b']⟩ (.int k1 a') rfl,p2 ⟨[.int k1 a,.int k2 b]⟩ (.int k2 b) rfl,p2 ⟨[.int k1 a',.int k2 b']⟩ (.int k2 b') rfl,
  Mc d _ _ w h1,Mc d _ _ w h2]
 by_cases ha:a=a' <;> by_cases hb:b=b' <;> simp [ha,hb]
theorem all2_two {α β:Type} {R:α→β→Prop} {a b:α} {vs:List β} (h:All2 R [a,b] vs):∃ v1 v2,vs=[v1,v2]∧R a v1∧R b v2:=by
 cases h with
 | cons h1 h=>cases h with
  | cons h2 h=>cases h;exact ⟨_,_,rfl,h1,h2⟩
theorem bytes_eqb (a b:ByteArray):(a==b)=(a.toList==b.toList):=by
 rw [ByteArray.toList_eq,ByteArray.toList_eq,show (a==b)=(a.data==b.data) by cases a;cases b;rfl]
 by_cases h:a.data=b.data
 ·rw [h,beq_self_eq_true,beq_self_eq_true]
 ·have h2:a.data.toList≠b.data.toList:=fun e=>h (Array.toList_inj.1 e)
  rw [beq_eq_false_iff_ne.2 h2,beq_eq_false_iff_ne.2 h]
theorem equalIn_str {t:TypeId} (d:Nat) (a b:ByteArray) (w:World) (hu:(underlying t).run P w = .ok .string w):(Op.equalIn (d+1) t (.string a) (.string b)).run P w = .ok (a.toList==b.toList) w:=by
 simp [Op.equalIn,hu,bytes_eqb]
theorem equalIn_three {t:TypeId} {f1 f2 f3:Field} {k2 k3 l2 l3:IntKind} (d:Nat) (a:ByteArray) (b c:Int) (a':ByteArray) (b' c':Int) (w:World) (hu:(underlying t).run P w = .ok (.struct #[f1,f2,f3]) w) (hs:P.stoodInHeld t=false)
  (h1 : (underlying f1.type).run P w = .ok .string w) (h2 : (underlying f2.type).run P w = .ok (.int l2) w) (h3 : (underlying f3.type).run P w = .ok (.int l3) w) (n1 : f1.name ≠ "_") (n2 : f2.name ≠ "_") (n3 : f3.name ≠ "_") (o1 : f1.offset = 0) (o2 : f2.offset = 1) (o3 : f3.offset = 2)
  (p1:∀ cs:Array Value,∀ v,cs[0]?=some v→(part f1.type cs 0).run P w = .ok v w) (p2:∀ cs:Array Value,∀ v,cs[1]?=some v→(part f2.type cs 1).run P w = .ok v w) (p3:∀ cs:Array Value,∀ v,cs[2]?=some v→(part f3.type cs 2).run P w = .ok v w) :
  (Op.equalIn (d+2) t (.agg ⟨[.string a,.int k2 b,.int k3 c]⟩) (.agg ⟨[.string a',.int k2 b',.int k3 c']⟩)).run P w = .ok (a.toList==a'.toList&&(b==b'&&c==c')) w:=by
 rw [Op.equalIn]
 simp only [Sem.run_bind,hu,Result.andThen_ok,run_program,hs]
 simp [n1,n2,n3,o1,o2,o3,p1 ⟨[.string a,.int k2 b,.int k3 c]⟩ (.string a) rfl,p1 ⟨[.string a',.int k2 b',.int k3 c']⟩ (.string a') rfl,p2 ⟨[.string a,.int k2 b,.int k3 c]⟩ (.int k2 b) rfl,p2 ⟨[.string a',.int k2 b',.int k3 c']⟩ (.int k2 b') rfl,
  p3 ⟨[.string a,.int k2 b,.int k3 c]⟩ (.int k3 c) rfl,p3 ⟨[.string a',.int k2 b',.int k3 c']⟩ (.int k3 c') rfl,equalIn_str d _ _ w h1,Mc d _ _ w h2,Mc d _ _ w h3]
 by_cases ha:a.toList=a'.toList <;> by_cases hb:b=b' <;> by_cases hc:c=c' <;> simp [ha,hb,hc]
theorem all2_three {α β:Type} {R:α→β→Prop} {a b c:α} {vs:List β} (h:All2 R [a,b,c] vs):∃ v1 v2 v3,vs=[v1,v2,v3]∧R a v1∧R b v2∧R c v3:=by
 cases h with
 | cons h1 h=>obtain ⟨v2,v3,rfl,h2,h3⟩:=all2_two h;exact ⟨_,_,_,rfl,h1,h2,h3⟩
theorem eqAgg3_run (hτ:τ.Ok P) {w:World} {im:Nat→Prop} {φ:Phi} {ln:Nat→Option Nat} {nx:Nat} {op:BinOp} {t:TypeId} {x y:List CV} {vx vy:Value} {k:CV→Prop} (hk:eqAgg3K P τ op t x y k)
  (hx:(AV.agg x).relR (CV.rel w im φ ln nx) vx) (hy:(AV.agg y).relR (CV.rel w im φ ln nx) vy) :
  ∃ r u,k r∧(∀ w,(binOp op t vx vy).run P w = .ok u w)∧r.rel w im φ ln nx u∧∀ X Y w,(eqGuard op t X Y vx vy).run P w = .ok () w:=by
 unfold eqAgg3K at hk
 split at hk
 ·rename_i a kb b kc c a' kb' b' kc' c'
  split at hk
  ·rename_i i hi
   split at hk
   ·rename_i f1 f2 f3 hd
    split at hk
    ·rename_i i1 i2 i3 hi1 hi2 hi3
     split at hk
     ·rename_i l2 l3 hd1 hd2 hd3
      split at hk
      ·rename_i hoff
       simp only [Bool.and_eq_true] at hoff
       have o1:=Nat.eq_of_beq_eq_true hoff.1.1
       have o2:=Nat.eq_of_beq_eq_true hoff.1.2.1
       have o3:=Nat.eq_of_beq_eq_true hoff.1.2.2
       have e1:=IntKind.same_eq hoff.2.1
       have e2:=IntKind.same_eq hoff.2.2
       subst e1
       subst e2
       obtain ⟨⟨g1,g2,n1,n2,n3⟩,hk⟩:=hk
       obtain ⟨vs,rfl,hv⟩:=hx
       obtain ⟨v1,v2,v3,rfl,x1,x2,x3⟩:=all2_three hv
       obtain ⟨us,rfl,hv⟩:=hy
       obtain ⟨u1,u2,u3,rfl,y1,y2,y3⟩:=all2_three hv
       obtain rfl:=G7 x1
       obtain rfl:=G7 y1
       rw [Gj x2,Gj x3,Gj y2,Gj y3]
       have hu1:∀ w,(underlying f1.type).run P w = .ok .string w:=fun w=>by rw [Gi hτ hi1 w,hd1]
       have hu2:∀ w,(underlying f2.type).run P w = .ok (.int l2) w:=fun w=>by rw [Gi hτ hi2 w,hd2]
       have hu3:∀ w,(underlying f3.type).run P w = .ok (.int l3) w:=fun w=>by rw [Gi hτ hi3 w,hd3]
       have hA1:∀ w,(isAgg f1.type).run P w = .ok false w:=fun w=>by rw [J1 hτ hi1 w,hd1];rfl
       have hA2:∀ w,(isAgg f2.type).run P w = .ok false w:=fun w=>by rw [J1 hτ hi2 w,hd2];rfl
       have hA3:∀ w,(isAgg f3.type).run P w = .ok false w:=fun w=>by rw [J1 hτ hi3 w,hd3];rfl
       have pt:∀ {T:TypeId} (hA:∀ w,(isAgg T).run P w = .ok false w) (n:Nat) w (cs:Array Value) v,cs[n]?=some v→(part T cs n).run P w = .ok v w:=fun hA n w cs v hv=>by
        simp only [part,Sem.run_bind,hA,Result.andThen_ok,Bool.false_eq_true,if_false,hv,Sem.run_pure]
       have hu:∀ w,(underlying t).run P w = .ok (.struct #[f1,f2,f3]) w:=fun w=>by rw [Gi hτ hi w,hd]
       generalize (b:Int)=b at hk ⊢
       generalize (b':Int)=b' at hk ⊢
       generalize (c:Int)=c at hk ⊢
       generalize (c':Int)=c' at hk ⊢
       have he:∀ w,(Op.equal t (.agg ⟨[.string a,.int kb b,.int kc c]⟩) (.agg ⟨[.string a',.int kb b',.int kc c']⟩)).run P w = .ok (a.toList==a'.toList&&(b==b'&&c==c')) w:=fun w=>
        equalIn_three 9998 a b c a' b' c' w (hu w) g2 (hu1 w) (hu2 w) (hu3 w) n1 n2 n3 o1 o2 o3 (pt hA1 0 w) (pt hA2 1 w) (pt hA3 2 w)
       unfold Km at hk
       cases op <;> try exact hk.elim
       ·exact ⟨_,_,hk,fun w=>by simp only [binOp,Sem.run_bind,he,Result.andThen_ok,Sem.run_pure],rfl,fun X Y w=>by simp [eqGuard,g1]⟩
       ·exact ⟨_,_,hk,fun w=>by simp only [binOp,Sem.run_bind,he,Result.andThen_ok,Sem.run_pure],rfl,fun X Y w=>by simp [eqGuard,g1]⟩
      ·exact hk.elim
     ·exact hk.elim
    ·exact hk.elim
   ·exact hk.elim
  ·exact hk.elim
 ·exact hk.elim
theorem eqAgg_run (hτ:τ.Ok P) {w:World} {im:Nat→Prop} {φ:Phi} {ln:Nat→Option Nat} {nx:Nat} {op:BinOp} {t:TypeId} {x y:AV} {vx vy:Value} {k:CV→Prop} (hk:eqAggK P τ op t x y k)
  (hx:x.relR (CV.rel w im φ ln nx) vx) (hy:y.relR (CV.rel w im φ ln nx) vy) :
  ∃ r u,k r∧(∀ w,(binOp op t vx vy).run P w = .ok u w)∧r.rel w im φ ln nx u∧∀ X Y w,(eqGuard op t X Y vx vy).run P w = .ok () w:=by
 unfold eqAggK at hk
 split at hk
 ·rename_i ka a kb b ka' a' kb' b'
  split at hk
  ·rename_i i hi
   split at hk
   ·rename_i f1 f2 hd
    split at hk
    ·rename_i i1 i2 hi1 hi2
     split at hk
     ·rename_i l1 l2 hd1 hd2
      split at hk
      ·rename_i hoff
       simp only [Bool.and_eq_true] at hoff
       have o1:=Nat.eq_of_beq_eq_true hoff.1.1
       have o2:=Nat.eq_of_beq_eq_true hoff.1.2
       have e1:=IntKind.same_eq hoff.2.1
       have e2:=IntKind.same_eq hoff.2.2
       subst e1
       subst e2
       obtain ⟨⟨g1,g2,n1,n2⟩,hk⟩:=hk
       obtain ⟨vs,rfl,hv⟩:=hx
       obtain ⟨v1,v2,rfl,x1,x2⟩:=all2_two hv
       obtain ⟨us,rfl,hv⟩:=hy
       obtain ⟨u1,u2,rfl,y1,y2⟩:=all2_two hv
       rw [Gj x1,Gj x2,Gj y1,Gj y2]
       have hu1:∀ w,(underlying f1.type).run P w = .ok (.int l1) w:=fun w=>by rw [Gi hτ hi1 w,hd1]
       have hu2:∀ w,(underlying f2.type).run P w = .ok (.int l2) w:=fun w=>by rw [Gi hτ hi2 w,hd2]
       have hA1:∀ w,(isAgg f1.type).run P w = .ok false w:=fun w=>by rw [J1 hτ hi1 w,hd1];rfl
       have hA2:∀ w,(isAgg f2.type).run P w = .ok false w:=fun w=>by rw [J1 hτ hi2 w,hd2];rfl
       have p1:∀ w (cs:Array Value) v,cs[0]?=some v→(part f1.type cs 0).run P w = .ok v w:=fun w cs v hv=>by
        simp only [part,Sem.run_bind,hA1,Result.andThen_ok,Bool.false_eq_true,if_false,hv,Sem.run_pure]
       have p2:∀ w (cs:Array Value) v,cs[1]?=some v→(part f2.type cs 1).run P w = .ok v w:=fun w cs v hv=>by
        simp only [part,Sem.run_bind,hA2,Result.andThen_ok,Bool.false_eq_true,if_false,hv,Sem.run_pure]
       have hu:∀ w,(underlying t).run P w = .ok (.struct #[f1,f2]) w:=fun w=>by rw [Gi hτ hi w,hd]
       generalize (a:Int)=a at hk ⊢
       generalize (b:Int)=b at hk ⊢
       generalize (a':Int)=a' at hk ⊢
       generalize (b':Int)=b' at hk ⊢
       have he:∀ w,(Op.equal t (.agg ⟨[.int ka a,.int kb b]⟩) (.agg ⟨[.int ka a',.int kb b']⟩)).run P w = .ok (a==a'&&b==b') w:=fun w=>equalIn_pair 9998 a b a' b' w (hu w) g2 (hu1 w) (hu2 w) n1 n2 o1 o2 (p1 w) (p2 w)
       unfold Km at hk
       cases op <;> try exact hk.elim
       ·exact ⟨_,_,hk,fun w=>by simp only [binOp,Sem.run_bind,he,Result.andThen_ok,Sem.run_pure],rfl,fun X Y w=>by simp [eqGuard,g1]⟩
       ·exact ⟨_,_,hk,fun w=>by simp only [binOp,Sem.run_bind,he,Result.andThen_ok,Sem.run_pure],rfl,fun X Y w=>by simp [eqGuard,g1]⟩
      ·exact hk.elim
     ·exact hk.elim
    ·exact hk.elim
   ·exact hk.elim
  ·exact hk.elim
 ·exact eqAgg3_run hτ hk hx hy
 ·exact hk.elim
theorem vcOp_next (hτ:τ.Ok P) (h:Sat G φ s a w) {o:Oper} {k:Option AV→St→List Nat→Prop} (hk:vcOp P τ o s k) :
  (∃ u w',(execOp a.eval o).run P w = .ok (.value u) w'∧J6 G φ s a w k u w')∨
  (∃ w',(execOp a.eval o).run P w = .ok .skip w'∧J6 G φ s a w k undef w')∨
  (∃ f args,(execOp a.eval o).run P w = .ok (.enter f args) w∧Calls P f args w (fun e w'=>∃ u,e = .returned u∧J6 G φ s a w k u w')):=by
 unfold vcOp at hk
 unfold execOp
 split at hk
 ·rename_i x e
  obtain ⟨v,h1,h2⟩:=Gm h hk
  exact .inl ⟨_,w,by simp [e],J6.here h h1 h2⟩
 ·rename_i x e
  obtain ⟨v,h1,h2⟩:=Gm h hk
  exact .inl ⟨_,w,by simp [e],J6.here h h1 h2⟩
 ·rename_i c x y e
  split at hk
  ·rename_i β hβ
   have hb:a.eval c = .bool β:=Je (w:=w) (im:=G.im s φ) (φ:=φ) (ln:=s.ln) (nx:=s.nx) (Lv h hβ)
   cases hbb:(β:Bool) with
   | true=>
    obtain ⟨v,h1,h2⟩:=Gm h (hk.1 hbb)
    exact .inl ⟨_,w,by rw [e];simp [hb,asBool,hbb],J6.here h h1 h2⟩
   | false=>
    obtain ⟨v,h1,h2⟩:=Gm h (hk.2 hbb)
    exact .inl ⟨_,w,by rw [e];simp [hb,asBool,hbb],J6.here h h1 h2⟩
  ·exact hk.elim
 ·rename_i e0 e
  obtain ⟨u,w',h1,h2⟩:=alloc_spec hτ h hk
  exact .inl ⟨u,w',by rw [e];simp [h1],h2.next⟩
 ·rename_i e0 x e
  obtain ⟨v,h1,h2⟩:=Gm h hk
  obtain ⟨u,w',h3,h4⟩:=box_spec (P:=P) (e:=e0) h h1 h2
  exact .inl ⟨u,w',by rw [e];simp [h3],h4.next⟩
 ·rename_i t ps e
  obtain ⟨r,u,h1,h2,h3⟩:=build_spec hτ h hk
  exact .inl ⟨u,w,by rw [e];simp [h2],J6.here h h1 h3⟩
 ·rename_i t n ps e
  rcases hk with hk | hk
  ·obtain ⟨u,w',h1,h2⟩:=lit_spec hτ h hk
   exact .inl ⟨u,w',by rw [e];simp [h1],h2.next⟩
  ·obtain ⟨u,w',h1,h2⟩:=litH_spec hτ h hk
   exact .inl ⟨u,w',by rw [e];simp [h1],h2.next⟩
 ·rename_i t x e
  obtain ⟨y,h1,h2⟩:=Gf h hk
  obtain ⟨r,u,h3,h4,h5⟩:=load_spec hτ h h1 h2
  exact .inl ⟨u,w,by rw [e];simp [h4 w (fun _ _ _=>rfl)],J6.here h h3 h5⟩
 ·rename_i t x y e
  obtain ⟨vx,h1,h2⟩:=Gf h hk
  obtain ⟨vy,h3,h4⟩:=Gm h h1
  rcases h3 with h3 | h3
  ·obtain ⟨w',h5,s',φ',m,k1,k2,k3,k4⟩:=store_spec hτ h h3 h2 h4
   exact .inr (.inl ⟨w',by rw [e];simp [h5],none,s',φ',m,k1,k2,rfl,k3,k4⟩)
  ·obtain ⟨w',h5,s',φ',m,k1,k2,k3,k4⟩:=storeH_spec hτ h h3 h2 h4
   exact .inr (.inl ⟨w',by rw [e];simp [h5],none,s',φ',m,k1,k2,rfl,k3,k4⟩)
 ·rename_i x e
  obtain ⟨y,h1,h2⟩:=Gf h hk
  have hp:∃ p,a.eval x = .pointer (some p)∧k (some (.one y)) s []:=by
   split at h1
   ·obtain ⟨_,b,cap,_,e1⟩:=h2;exact ⟨_,e1,h1⟩
   ·obtain ⟨_,⟨b,cap,_,e1⟩,_⟩:=h2;exact ⟨_,e1,h1⟩
   ·obtain ⟨b,o,c,T,z,ds,e1,_⟩:=h2;exact ⟨_,e1,h1⟩
   ·exact h1.elim
  obtain ⟨p,hp,hkk⟩:=hp
  exact .inl ⟨a.eval x,w,by rw [e];simp [hp],J6.here h hkk h2⟩
 ·rename_i op t x y yt e
  split at hk
  ·rename_i cs hcs
   obtain ⟨vy,h1,h2⟩:=Gm h hk
   obtain ⟨r,u,h3,h4,h5,h6⟩:=eqAgg_run hτ h1 (Lv h hcs) h2
   exact .inl ⟨u,w,by rw [e];simp [h6 x y w,h4],J6.here h h3 h5⟩
  ·rename_i hcs
   unfold nilIfK at hk
   split at hk
   ·split at hk
    ·rename_i hb
     obtain ⟨r,u,h3,h4,h5⟩:=nilIf_run hτ hb hk
     have hx0:a.eval x = .nilIface:=(Lv h hcs).1
     have hg:(eqGuard op t x (.const .nilIface) .nilIface .nilIface).run P w = .ok () w:=by
      unfold eqGuard
      cases op <;> simp
     have hy0:a.eval (.const .nilIface) = .nilIface:=rfl
     exact .inl ⟨u,w,by rw [e];simp [hx0,hy0,hg,h4],J6.here h h3 (h5 _ _ _ _ _)⟩
    ·exact hk.elim
   ·exact hk.elim
  ·obtain ⟨vx,h1,h2⟩:=Gf h hk
   obtain ⟨vy,h3,h4⟩:=Gf h h1
   obtain ⟨r,u,h5,h6,h7⟩:=binCV_run hτ h3 h2 h4
   have hg:=eqGuard_run (P:=P) op t x y (vx:=a.eval x) (vy:=a.eval y) (binCV_left h3 h2) w
   exact .inl ⟨u,w,by rw [e];simp [hg,h6],J6.here h h5 h7⟩
 ·rename_i op t x e
  obtain ⟨vx,h1,h2⟩:=Gf h hk
  obtain ⟨r,u,h5,h6,h7⟩:=unCV_run (P:=P) h1 h2
  exact .inl ⟨u,w,by rw [e];simp [h6],J6.here h h5 h7⟩
 ·rename_i src dst x e
  obtain ⟨vx,h1,h2⟩:=Gf h hk
  obtain ⟨r,u,h5,h6,h7⟩:=convK_run hτ h h1 h2
  exact .inl ⟨u,w,by rw [e];simp [h6],J6.here h h5 h7⟩
 ·rename_i t l c e
  obtain ⟨vl,h1,h2⟩:=Gm h hk
  obtain ⟨vc,h3,h4⟩:=Gm h h1
  obtain ⟨u,w',h5,h6⟩:=mk_spec hτ h h3 h2 h4
  exact .inl ⟨u,w',by rw [e];simp [h5],h6.next⟩
 ·rename_i t x lo hi e
  obtain ⟨vx,h1,h2⟩:=Gf h hk
  obtain ⟨u,h3,h4⟩:=slice_spec hτ h h1 h2
  exact .inl ⟨u,w,by rw [e];simp only [Option.map_none,Sem.run_bind,h3,Result.andThen_ok,Sem.run_pure],h4.next⟩
 ·rename_i S x f e
  obtain ⟨vx,h1,h2⟩:=Gf h hk
  obtain ⟨r,u,h3,h4,h5⟩:=fld_spec hτ h h1 h2
  exact .inl ⟨u,w,by rw [e];simp [h4],J6.here h h3 h5⟩
 ·rename_i S x f e
  obtain ⟨vx,h1,h2⟩:=Gm h hk
  obtain ⟨r,u,h3,h4,h5⟩:=field_spec hτ h1 h2
  exact .inl ⟨u,w,by rw [e];simp [h4],J6.here h h3 h5⟩
 ·rename_i t x ix e
  obtain ⟨vx,h1,h2⟩:=Gf h hk
  obtain ⟨vi,h3,h4⟩:=Gf h h1
  obtain ⟨r,u,h5,h6,h7⟩:=ix_spec hτ h h3 h2 h4
  exact .inl ⟨u,w,by rw [e];simp [h6],J6.here h h5 h7⟩
 ·rename_i t x ix e
  obtain ⟨vx,h1,h2⟩:=Gm h hk
  obtain ⟨vi,h3,h4⟩:=Gm h h1
  obtain ⟨r,u,h5,h6,h7⟩:=index_spec hτ h3 h2 h4
  exact .inl ⟨u,w,by rw [e];simp [h6],J6.here h h5 h7⟩
 ·rename_i t i e
  obtain ⟨v,h1,h2⟩:=Gm h hk
  split at h1
  ·rename_i vs
   obtain ⟨p,h3,h4⟩:=Jz _ _ _ h1
   obtain ⟨us,e1,h5⟩:=h2
   obtain ⟨u,h6,h7⟩:=h5.get _ _ h3
   refine .inl ⟨u,w,?_,J6.here h h4 (RV.toAV h7)⟩
   rw [e]
   simp [Instr.extract,e1,h6]
  ·exact h1.elim
 ·rename_i c e
  split at hk
  ·rename_i hc
   split at hk
   ·rename_i x t hx ht
    obtain ⟨vx,h1,h2⟩:=Gf h hk
    obtain ⟨r,u,h3,h4,h5⟩:=len_spec hτ (ty:=o.type) h h1 h2
    refine .inl ⟨u,w,?_,J6.here h h3 h5⟩
    have hx':c.args = #[x]:=by rw [← hx]
    have ht':c.argTypes = #[t]:=by rw [← ht]
    rw [e]
    simp [resolve,hc,hx',ht',invoke,builtin,h4]
   ·exact hk.elim
  ·rename_i hc
   split at hk
   ·rename_i x y t t' hx ht
    obtain ⟨vx,h1,h2⟩:=Gf h hk
    obtain ⟨vy,h3,h4⟩:=Gf h h1
    have hx':c.args = #[x,y]:=by rw [← hx]
    have ht':c.argTypes = #[t,t']:=by rw [← ht]
    rcases h3 with h3 | h3
    ·obtain ⟨u,w',h5,h6⟩:=app_spec hτ (ty:=o.type) h h3 h2 h4
     refine .inl ⟨u,w',?_,h6.next⟩
     rw [e]
     simp [resolve,hc,hx',ht',invoke,builtin,h5]
    ·obtain ⟨u,w',h5,h6⟩:=appH_spec hτ (ty:=o.type) h h3 h2 h4
     refine .inl ⟨u,w',?_,h6.next⟩
     rw [e]
     simp [resolve,hc,hx',ht',invoke,builtin,h5]
   ·exact hk.elim
  ·rename_i hc
   split at hk
   ·rename_i x y t t' hx ht
    obtain ⟨vx,h1,h2⟩:=Gf h hk
    obtain ⟨vy,h3,h4⟩:=Gf h h1
    obtain ⟨u,w',h5,h6⟩:=copy_spec hτ (ty:=o.type) h h3 h2 h4
    refine .inl ⟨u,w',?_,h6.next⟩
    have hx':c.args = #[x,y]:=by rw [← hx]
    have ht':c.argTypes = #[t,t']:=by rw [← ht]
    rw [e]
    simp [resolve,hc,hx',ht',invoke,builtin,h5]
   ·exact hk.elim
  ·rename_i hc
   obtain ⟨vs,h1,h2⟩:=Lu h _ _ hk
   obtain ⟨r,u,h3,h4,h5⟩:=mxCV_run (P:=P) h1 h2 c.argTypes o.type
   refine .inl ⟨u,w,?_,J6.here h h3 h5⟩
   have h4':=h4 w
   simp only [if_true] at h4'
   rw [e]
   have ha:c.args.map a.eval=⟨c.args.toList.map a.eval⟩:=by apply Array.ext';simp
   simp [resolve,hc,invoke,builtin,ha,h4']
  ·rename_i hc
   obtain ⟨vs,h1,h2⟩:=Lu h _ _ hk
   obtain ⟨r,u,h3,h4,h5⟩:=mxCV_run (P:=P) h1 h2 c.argTypes o.type
   refine .inl ⟨u,w,?_,J6.here h h3 h5⟩
   have h4':=h4 w
   simp only [Bool.false_eq_true,if_false] at h4'
   rw [e]
   have ha:c.args.map a.eval=⟨c.args.toList.map a.eval⟩:=by apply Array.ext';simp
   simp [resolve,hc,invoke,builtin,ha,h4']
  ·rename_i f hc
   split at hk
   ·rename_i n hf
    obtain ⟨hfv,_⟩:a.eval f = .func (.func n) ⟨[]⟩ ⟨[]⟩∧_:=Lv h hf
    obtain ⟨vs,h1,h2⟩:=Lu h _ _ hk
    have ha:c.args.map a.eval=⟨c.args.toList.map a.eval⟩:=by apply Array.ext';simp
    rcases h1 with ⟨⟨fn,f1,f2,f3⟩,h1⟩ | ⟨g,ys,hg,h1⟩
    ·right;right
     refine ⟨n,⟨c.args.toList.map a.eval⟩,?_,(callV_spec h h1 h2).mono (fun e w' ⟨u,e1,h3⟩=>⟨u,e1,h3.next⟩)⟩
     rw [e]
     have hbody:fn.body.isNone=false:=by cases hb:fn.body <;> simp_all
     simp only [resolve,hc,hfv,Deferred.ofValue,ha,Sem.run_bind,Sem.run_pure,Result.andThen_ok,invoke,callFunc,run_program,f1]
     simp [f3,hbody]
    ·left
     obtain ⟨ns,⟨h30,h3⟩,h4⟩:=ints_spec h1 h2
     refine ⟨_,w,?_,J6.here h h3 (extR_rel ys)⟩
     rw [e]
     have hr:=hg ns ys w h30
     simp only [resolve,hc,hfv,Deferred.ofValue,ha,h4,Sem.run_bind,Sem.run_pure,Result.andThen_ok,invoke]
     simpa using hr
   ·exact hk.elim
  ·exact hk.elim
 ·exact hk.elim
end
end Go.AM
