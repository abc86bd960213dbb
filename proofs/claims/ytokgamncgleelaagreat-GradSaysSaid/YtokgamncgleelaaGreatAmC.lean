
import Derived.Test.YtokgamncgleelaaGreatAmB
set_option linter.unusedVariables false
set_option linter.unusedSimpArgs false
namespace Go.AM
structure TI where
 desc:TypeDesc
 size:Nat
 bytes:Nat
 zero:Value
 ty:Option Ty
abbrev TE:=List (Nat×TI)
structure TI.Ok (P:Program) (t:TypeId) (i:TI):Prop where
 und:P.underlying t=some i.desc
 info:∃ j,P.info? t=some j∧j.size=i.size∧j.bytes=i.bytes∧j.zero=some i.zero
 ty:∀ y,i.ty=some y→y.n=i.size∧i.zero.cells.toList=y.zv
 oc:∀ v ∈ i.zero.cells.toList,v.oneCell'=true
def TE.Ok (P:Program) (τ:TE):Prop:=∀ t i,lk τ t=some i→i.Ok P t
theorem TE.ok_nil (P:Program):TE.Ok P []:=fun t i h=>by simp at h
theorem TE.ok_cons {P:Program} {t:TypeId} {i:TI} {τ:TE} (h:i.Ok P t) (hτ:TE.Ok P τ):TE.Ok P ((t,i)::τ):=fun u j hj=>by
 rw [Gr] at hj
 split at hj
 ·rename_i e;subst e;cases hj;exact h
 ·exact hτ u j hj
def Lj:Value→CV
 | .int k n=>.d (.int k) n
 | .bool b=>.d .bool b
 | .string s=>.d .str s
 | v=>.c v
def constAV:Value→Option AV
 | .agg cs=>match cs.toList.all Value.oneCell' with
  | true=>some (.agg (cs.toList.map Lj))
  | false=>none
 | .tuple _=>none
 | v=>some (.one (Lj v))
theorem constCV_rel {w:World} {im:Nat→Prop} {φ:Phi} {ln:Nat→Option Nat} {nx:Nat} {v:Value} (h:v.oneCell'=true):(Lj v).rel w im φ ln nx v:=by
 cases v <;> first | exact ⟨rfl,h⟩ | rfl
theorem Jr {w:World} {im:Nat→Prop} {φ:Phi} {ln:Nat→Option Nat} {nx:Nat}:∀ {vs:List Value},(∀ v ∈ vs,v.oneCell'=true)→All2 (CV.rel w im φ ln nx) (vs.map Lj) vs
 | [],_=>.nil
 | v::vs,h=>.cons (constCV_rel (h v (by simp))) (Jr (fun x hx=>h x (by simp [hx])))
theorem constAV_one {v:Value} (h:v.oneCell'=true):constAV v=some (.one (Lj v)):=by
 cases v <;> first | rfl | cases h
theorem constAV_rel {w:World} {im:Nat→Prop} {φ:Phi} {ln:Nat→Option Nat} {nx:Nat} {v:Value} {x:AV} (h:constAV v=some x):x.relR (CV.rel w im φ ln nx) v:=by
 by_cases hv:v.oneCell'=true
 ·rw [constAV_one hv] at h
  have h':=Option.some.inj h
  rw [← h']
  exact constCV_rel (w:=w) (im:=im) (φ:=φ) (ln:=ln) (nx:=nx) hv
 ·cases v <;> try exact absurd rfl hv
  case agg cs=>
   simp only [constAV] at h
   split at h
   ·rename_i hall
    cases h
    rw [List.all_eq_true] at hall
    exact ⟨cs.toList,by simp,Jr hall⟩
   ·cases h
  case tuple=>cases h
def ev (s:St):Operand→Option AV
 | .tmp t=>lk s.env t
 | .const v=>constAV v
 | .func f=>some (.one (.c (.func (.func f) #[] #[])))
 | .global _=>none
theorem Lv {G:Ctx} {φ:Phi} {s:St} {a:Act} {w:World} (h:Sat G φ s a w) {x:Operand} {v:AV} (hv:ev s x=some v) :
  v.relR (CV.rel w (G.im s φ) φ s.ln s.nx) (a.eval x):=by
 cases x with
 | tmp t=>exact h.get hv
 | const c=>exact constAV_rel hv
 | func f=>simp only [ev,Option.some.injEq] at hv;subst hv;exact ⟨rfl,rfl⟩
 | global g=>cases hv
def IntKind.same:IntKind→IntKind→Bool
 | .i8,.i8 | .i16,.i16 | .i32,.i32 | .i64,.i64 | .u8,.u8 | .u16,.u16 | .u32,.u32 | .u64,.u64=>true
 | _,_=>false
theorem IntKind.same_eq {k k':IntKind} (h:IntKind.same k k'=true):k=k':=by cases k <;> cases k' <;> first | rfl | cases h
def Fv (k:IntKind) (f:BitVec k.bits→BitVec k.bits→BitVec k.bits) (a b:Int):Int:=k.wrap ((f (BitVec.ofInt k.bits a) (BitVec.ofInt k.bits b)).toNat)
def intBin (op:BinOp) (ka kb:IntKind) (a b:Int) (k:CV→Prop):Prop:=
 match op with
 | .shl=>0≤b∧k (.d (.int ka) (ka.wrap (a*2 ^ min b.toNat ka.bits)))
 | .shr=>0≤b∧k (.d (.int ka) (a.fdiv (2 ^ min b.toNat ka.bits)))
 | _=>match IntKind.same ka kb with
  | false=>False
  | true=>match op with
   | .add=>k (.d (.int ka) (ka.wrap (a+b)))
   | .sub=>k (.d (.int ka) (ka.wrap (a-b)))
   | .mul=>k (.d (.int ka) (ka.wrap (a*b)))
   | .quo=>b≠0∧k (.d (.int ka) (ka.wrap (a.tdiv b)))
   | .rem=>b≠0∧k (.d (.int ka) (a.tmod b))
   | .and=>k (.d (.int ka) (Fv ka (·&&& ·) a b))
   | .or=>k (.d (.int ka) (Fv ka (·||| ·) a b))
   | .xor=>k (.d (.int ka) (Fv ka (· ^^^ ·) a b))
   | .andNot=>k (.d (.int ka) (Fv ka (fun x y=>x&&& ~~~y) a b))
   | .eql=>k (.d .bool (a==b))
   | .neq=>k (.d .bool (a != b))
   | .lss=>k (.d .bool (decide (a<b)))
   | .leq=>k (.d .bool (decide (a≤b)))
   | .gtr=>k (.d .bool (decide (a>b)))
   | .geq=>k (.d .bool (decide (a≥b)))
   | _=>False
def strBin (op:BinOp) (a b:ByteArray) (k:CV→Prop):Prop:=
 match op with
 | .add=>((a.size+b.size:Nat):Int)≤140737488355328∧k (.d .str (a++b))
 | .eql=>k (.d .bool (a.toList==b.toList))
 | .neq=>k (.d .bool (!(a.toList==b.toList)))
 | .lss=>k (.d .bool (Op.bytesLess a.toList b.toList))
 | _=>False
def boolBin (op:BinOp) (a b:Bool) (k:CV→Prop):Prop:=
 match op with
 | .eql=>k (.d .bool (a==b))
 | .neq=>k (.d .bool (!(a==b)))
 | _=>False
def Km (op:BinOp) (r:Bool) (k:CV→Prop):Prop:=
 match op with
 | .eql=>k (.d .bool r)
 | .neq=>k (.d .bool (!r))
 | _=>False
def isPtr (τ:TE) (t:TypeId):Bool:=match lk τ t with
 | some i=>match i.desc with
  | .pointer _=>true
  | _=>false
 | none=>false
def isBool (τ:TE) (t:TypeId):Bool:=match lk τ t with
 | some i=>match i.desc with
  | .bool=>true
  | _=>false
 | none=>false
def isSlice (τ:TE) (t:TypeId):Bool:=match lk τ t with
 | some i=>match i.desc with
  | .slice _=>true
  | _=>false
 | none=>false
def isIface (τ:TE) (t:TypeId):Bool:=match lk τ t with
 | some i=>match i.desc with
  | .interface _=>true
  | _=>false
 | none=>false
def binCV (τ:TE) (op:BinOp) (t:TypeId) (x y:CV) (k:CV→Prop):Prop:=
 match x,y with
 | .d (.int ka) a,.d (.int kb) b=>intBin op ka kb a b k
 | .d .str a,.d .str b=>strBin op a b k
 | .d .bool a,.d .bool b=>match isBool τ t with
  | true=>boolBin op a b k
  | false=>False
 | .ptr _ _,.c (.pointer none)=>match isPtr τ t with
  | true=>Km op false k
  | false=>False
 | .ip _ _ _,.c (.pointer none)=>match isPtr τ t with
  | true=>Km op false k
  | false=>False
 | .c (.pointer none),.c (.pointer none)=>match isPtr τ t with
  | true=>Km op true k
  | false=>False
 | .d (.sl _) xs,.c (.slice none 0 0)=>match isSlice τ t with
  | true=>∀ β:Bool,(β=true→List.length xs=0)→Km op β k
  | false=>False
 | .c (.slice none 0 0),.c (.slice none 0 0)=>match isSlice τ t with
  | true=>Km op true k
  | false=>False
 | _,_=>False
section
variable {P:Program} {τ:TE} {w:World} {im:Nat→Prop} {φ:Phi} {ln:Nat→Option Nat} {nx:Nat}
theorem Gi (hτ:τ.Ok P) {t:TypeId} {i:TI} (h:lk τ t=some i) (w:World):(underlying t).run P w = .ok i.desc w:=by
 simp [underlying,(hτ t i h).und]
theorem isPtr_run (hτ:τ.Ok P) {t:TypeId} (h:isPtr τ t=true):∃ e,∀ w,(underlying t).run P w = .ok (.pointer e) w:=by
 unfold isPtr at h
 split at h
 ·rename_i i hi
  split at h
  ·rename_i e he
   exact ⟨e,fun w=>by rw [Gi hτ hi,he]⟩
  ·cases h
 ·cases h
theorem isBool_run (hτ:τ.Ok P) {t:TypeId} (h:isBool τ t=true):∀ w,(underlying t).run P w = .ok .bool w:=by
 unfold isBool at h
 split at h
 ·rename_i i hi
  split at h
  ·rename_i he
   exact fun w=>by rw [Gi hτ hi,he]
  ·cases h
 ·cases h
theorem intBin_run {op:BinOp} {ka kb:IntKind} {a b:Int} {k:CV→Prop} (h:intBin op ka kb a b k) (t:TypeId) :
  ∃ r u,k r∧(∀ w,(binOp op t (.int ka a) (.int kb b)).run P w = .ok u w)∧∀ w im φ ln nx,r.rel w im φ ln nx u:=by
 unfold intBin at h
 cases op
 case shl=>
  obtain ⟨h0,h⟩:=h
  exact ⟨_,_,h,fun w=>by simp [binOp,Op.shift,Int.not_lt.2 h0],fun _ _ _ _ _=>rfl⟩
 case shr=>
  obtain ⟨h0,h⟩:=h
  exact ⟨_,_,h,fun w=>by simp [binOp,Op.shift,Int.not_lt.2 h0],fun _ _ _ _ _=>rfl⟩
 all_goals
  dsimp only at h
  split at h
  ·exact h.elim
  ·rename_i hk
   have:=IntKind.same_eq hk
   subst this
   first
   | exact ⟨_,_,h,fun w=>by simp [binOp,Op.intArith,Op.intBits,Op.intCmp,Fv],fun _ _ _ _ _=>rfl⟩
   | (obtain ⟨h0,h⟩:=h;exact ⟨_,_,h,fun w=>by simp [binOp,Op.intDiv,h0],fun _ _ _ _ _=>rfl⟩)
   | exact h.elim
theorem Je {t:Bool} {v:Value} (h:CV.rel w im φ ln nx (.d .bool t) v):v = .bool t:=by
 have:[v]=[Value.bool t]:=h
 simpa using this
theorem Gj {k:IntKind} {n:Int} {v:Value} (h:CV.rel w im φ ln nx (.d (.int k) n) v):v = .int k n:=by
 have:[v]=[Value.int k n]:=h
 simpa using this
theorem G7 {s:ByteArray} {v:Value} (h:CV.rel w im φ ln nx (.d .str s) v):v = .string s:=by
 have:[v]=[Value.string s]:=h
 simpa using this
theorem av_int {k:IntKind} {n:Int} {v:Value} (h:AV.relR (CV.rel w im φ ln nx) (.one (.d (.int k) n)) v):v = .int k n:=
 Gj (w:=w) (im:=im) (φ:=φ) (ln:=ln) (nx:=nx) h
theorem strBin_run {op:BinOp} {a b:ByteArray} {k:CV→Prop} (h:strBin op a b k) (t:TypeId) :
  ∃ r u,k r∧(∀ w,(binOp op t (.string a) (.string b)).run P w = .ok u w)∧∀ w im φ ln nx,r.rel w im φ ln nx u:=by
 unfold strBin at h
 cases op <;> try exact h.elim
 case add=>
  obtain ⟨h0,h⟩:=h
  refine ⟨_,_,h,fun w=>?_,fun _ _ _ _ _=>rfl⟩
  have:¬(((a.size+b.size:Nat):Int)>IntKind.i64.max):=by
   have:IntKind.i64.max=9223372036854775807:=by decide
   omega
  simp only [binOp,Op.stringOp,if_neg this]
  rfl
 all_goals exact ⟨_,_,h,fun w=>by simp [binOp,Op.stringOp],fun _ _ _ _ _=>rfl⟩
theorem equalIn_bool {t:TypeId} (d:Nat) (a b:Bool) (w:World) (hu:(underlying t).run P w = .ok .bool w):(Op.equalIn (d+1) t (.bool a) (.bool b)).run P w = .ok (a==b) w:=by
 simp [Op.equalIn,hu]
theorem equalIn_nil {t e:TypeId} (d:Nat) (A:Option Addr) (w:World) (hu:(underlying t).run P w = .ok (.pointer e) w):(Op.equalIn (d+1) t (.pointer A) (.pointer none)).run P w = .ok A.isNone w:=by
 cases A <;> simp [Op.equalIn,hu]
theorem boolBin_run (hτ:τ.Ok P) {op:BinOp} {a b:Bool} {k:CV→Prop} {t:TypeId} (ht:isBool τ t=true) (h:boolBin op a b k) :
  ∃ r u,k r∧(∀ w,(binOp op t (.bool a) (.bool b)).run P w = .ok u w)∧∀ w im φ ln nx,r.rel w im φ ln nx u:=by
 unfold boolBin at h
 have hu:∀ w,(Op.equal t (.bool a) (.bool b)).run P w = .ok (a==b) w:=fun w=>equalIn_bool 9999 a b w (isBool_run hτ ht w)
 cases op <;> try exact h.elim
 all_goals exact ⟨_,_,h,fun w=>by simp only [binOp,Sem.run_bind,hu,Result.andThen_ok,Sem.run_pure],fun _ _ _ _ _=>rfl⟩
theorem nilBin_run (hτ:τ.Ok P) {op:BinOp} {A:Option Addr} {k:CV→Prop} {t:TypeId} (ht:isPtr τ t=true) (h:Km op A.isNone k) :
  ∃ r u,k r∧(∀ w,(binOp op t (.pointer A) (.pointer none)).run P w = .ok u w)∧∀ w im φ ln nx,r.rel w im φ ln nx u:=by
 unfold Km at h
 obtain ⟨e,hu'⟩:=isPtr_run hτ ht
 have hu:∀ w,(Op.equal t (.pointer A) (.pointer none)).run P w = .ok A.isNone w:=fun w=>equalIn_nil 9999 A w (hu' w)
 cases op <;> try exact h.elim
 all_goals exact ⟨_,_,h,fun w=>by simp only [binOp,Sem.run_bind,hu,Result.andThen_ok,Sem.run_pure],fun _ _ _ _ _=>rfl⟩
theorem isSlice_run (hτ:τ.Ok P) {t:TypeId} (ht:isSlice τ t=true):∃ e,∀ w,(underlying t).run P w = .ok (.slice e) w:=by
 unfold isSlice at ht
 split at ht
 ·rename_i i hi
  split at ht
  ·rename_i e hd
   exact ⟨e,fun w=>by rw [Gi hτ hi w,hd]⟩
  ·cases ht
 ·cases ht
theorem equalIn_nilSl {t e:TypeId} (d:Nat) (A:Option Addr) (n c:Nat) (w:World) (hu:(underlying t).run P w = .ok (.slice e) w):(Op.equalIn (d+1) t (.slice A n c) (.slice none 0 0)).run P w = .ok A.isNone w:=by
 cases A <;> simp [Op.equalIn,hu]
theorem nilSl_run (hτ:τ.Ok P) {op:BinOp} {A:Option Addr} {n c:Nat} {k:CV→Prop} {t:TypeId} (ht:isSlice τ t=true) (h:Km op A.isNone k) :
  ∃ r u,k r∧(∀ w,(binOp op t (.slice A n c) (.slice none 0 0)).run P w = .ok u w)∧∀ w im φ ln nx,r.rel w im φ ln nx u:=by
 unfold Km at h
 obtain ⟨e,hu'⟩:=isSlice_run hτ ht
 have hu:∀ w,(Op.equal t (.slice A n c) (.slice none 0 0)).run P w = .ok A.isNone w:=fun w=>equalIn_nilSl 9999 A n c w (hu' w)
 cases op <;> try exact h.elim
 all_goals exact ⟨_,_,h,fun w=>by simp only [binOp,Sem.run_bind,hu,Result.andThen_ok,Sem.run_pure],fun _ _ _ _ _=>rfl⟩
theorem isIface_run (hτ:τ.Ok P) {t:TypeId} (ht:isIface τ t=true):∃ e,∀ w,(underlying t).run P w = .ok (.interface e) w:=by
 unfold isIface at ht
 split at ht
 ·rename_i i hi
  split at ht
  ·rename_i e hd
   exact ⟨e,fun w=>by rw [Gi hτ hi w,hd]⟩
  ·cases ht
 ·cases ht
theorem equalIn_nilIf {t:TypeId} {e} (d:Nat) (w:World) (hu:(underlying t).run P w = .ok (.interface e) w):(Op.equalIn (d+1) t .nilIface .nilIface).run P w = .ok true w:=by
 simp [Op.equalIn,hu]
theorem nilIf_run (hτ:τ.Ok P) {op:BinOp} {k:CV→Prop} {t:TypeId} (ht:isIface τ t=true) (h:Km op true k) :
  ∃ r u,k r∧(∀ w,(binOp op t .nilIface .nilIface).run P w = .ok u w)∧∀ w im φ ln nx,r.rel w im φ ln nx u:=by
 unfold Km at h
 obtain ⟨e,hu'⟩:=isIface_run hτ ht
 have hu:∀ w,(Op.equal t .nilIface .nilIface).run P w = .ok true w:=fun w=>equalIn_nilIf 9999 w (hu' w)
 cases op <;> try exact h.elim
 all_goals exact ⟨_,_,h,fun w=>by simp only [binOp,Sem.run_bind,hu,Result.andThen_ok,Sem.run_pure],fun _ _ _ _ _=>rfl⟩
theorem binCV_run (hτ:τ.Ok P) {op:BinOp} {t:TypeId} {x y:CV} {vx vy:Value} {k:CV→Prop} (h:binCV τ op t x y k)
  (hx:x.rel w im φ ln nx vx) (hy:y.rel w im φ ln nx vy) :
  ∃ r u,k r∧(∀ w,(binOp op t vx vy).run P w = .ok u w)∧r.rel w im φ ln nx u:=by
 unfold binCV at h
 split at h
 ·obtain ⟨r,u,h1,h2,h3⟩:=intBin_run (P:=P) h t
  rw [Gj hx,Gj hy]
  exact ⟨r,u,h1,h2,h3 _ _ _ _ _⟩
 ·obtain ⟨r,u,h1,h2,h3⟩:=strBin_run (P:=P) h t
  rw [G7 hx,G7 hy]
  exact ⟨r,u,h1,h2,h3 _ _ _ _ _⟩
 ·split at h
  ·rename_i hb
   obtain ⟨r,u,h1,h2,h3⟩:=boolBin_run hτ hb h
   rw [Je hx,Je hy]
   exact ⟨r,u,h1,h2,h3 _ _ _ _ _⟩
  ·exact h.elim
 ·split at h
  ·rename_i hb
   obtain ⟨_,b,cap,_,rfl⟩:=hx
   obtain ⟨rfl,_⟩:=hy
   obtain ⟨r,u,h1,h2,h3⟩:=nilBin_run hτ hb (A:=some ⟨b,_,none⟩) h
   exact ⟨r,u,h1,h2,h3 _ _ _ _ _⟩
  ·exact h.elim
 ·split at h
  ·rename_i hb
   obtain ⟨b,o,c,T,z,ds,rfl,_⟩:=hx
   obtain ⟨rfl,_⟩:=hy
   obtain ⟨r,u,h1,h2,h3⟩:=nilBin_run hτ hb (A:=some ⟨b,o+_,none⟩) h
   exact ⟨r,u,h1,h2,h3 _ _ _ _ _⟩
  ·exact h.elim
 ·split at h
  ·rename_i hb
   obtain ⟨rfl,_⟩:=hx
   obtain ⟨rfl,_⟩:=hy
   obtain ⟨r,u,h1,h2,h3⟩:=nilBin_run hτ hb (A:=none) h
   exact ⟨r,u,h1,h2,h3 _ _ _ _ _⟩
  ·exact h.elim
 ·split at h
  ·rename_i hb
   obtain ⟨A,cap,e1,_,hne⟩:=hx
   obtain ⟨rfl,_⟩:=hy
   cases e1
   obtain ⟨r,u,h1,h2,h3⟩:=nilSl_run hτ hb (A:=A) (h A.isNone (fun hA=>by
    rcases Decidable.em (List.length _=0) with h0 | h0
    ·exact h0
    ·obtain ⟨b,o,hs,_⟩:=hne (fun e=>h0 (by rw [e];rfl))
     rw [hs] at hA;cases hA))
   exact ⟨r,u,h1,h2,h3 _ _ _ _ _⟩
  ·exact h.elim
 ·split at h
  ·rename_i hb
   obtain ⟨rfl,_⟩:=hx
   obtain ⟨rfl,_⟩:=hy
   obtain ⟨r,u,h1,h2,h3⟩:=nilSl_run hτ hb (A:=none) h
   exact ⟨r,u,h1,h2,h3 _ _ _ _ _⟩
  ·exact h.elim
 ·exact h.elim
def unCV (op:UnOp) (x:CV) (k:CV→Prop):Prop:=
 match op,x with
 | .neg,.d (.int ka) a=>k (.d (.int ka) (ka.wrap (0-a)))
 | .xor,.d (.int ka) a=>k (.d (.int ka) (Fv ka (· ^^^ ·) (if ka.signed then -1 else ka.max) a))
 | .not,.d .bool b=>k (.d .bool (!b))
 | _,_=>False
theorem unCV_run {op:UnOp} {x:CV} {vx:Value} {k:CV→Prop} (h:unCV op x k) (hx:x.rel w im φ ln nx vx) :
  ∃ r u,k r∧(∀ w,(Op.unary op vx).run P w = .ok u w)∧r.rel w im φ ln nx u:=by
 unfold unCV at h
 split at h
 ·rw [Gj hx];exact ⟨_,_,h,fun w=>by simp [Op.unary,Op.intArith],rfl⟩
 ·rw [Gj hx];exact ⟨_,_,h,fun w=>by simp [Op.unary,Op.intBits,Fv],rfl⟩
 ·rw [Je hx];exact ⟨_,_,h,fun w=>by simp [Op.unary],rfl⟩
 ·exact h.elim
def convCV (τ:TE) (src dst:TypeId) (x:CV) (k:CV→Prop):Prop:=
 match x with
 | .d (.int _) n=>match lk τ src,lk τ dst with
  | some _,some i=>match i.desc with
   | .int kd=>k (.d (.int kd) (kd.wrap n))
   | _=>False
  | _,_=>False
 | .d .str a=>match lk τ src,lk τ dst with
  | some j,some i=>match j.desc,i.desc with
   | .string,.string=>k (.d .str a)
   | _,_=>False
  | _,_=>False
 | _=>False
theorem convCV_run (hτ:τ.Ok P) {src dst:TypeId} {x:CV} {vx:Value} {k:CV→Prop} (h:convCV τ src dst x k) (hx:x.rel w im φ ln nx vx) :
  ∃ r u,k r∧(∀ w,(convert src dst vx).run P w = .ok u w)∧r.rel w im φ ln nx u:=by
 unfold convCV at h
 split at h
 ·split at h
  ·rename_i n _ _ j i hs hd
   split at h
   ·rename_i kd hk
    rw [Gj hx]
    refine ⟨_,_,h,fun w=>?_,rfl⟩
    simp only [convert,Sem.run_bind,Gi hτ hs,Gi hτ hd,Result.andThen_ok,hk]
    cases j.desc <;> simp [Conv.intToInt]
   ·exact h.elim
  ·exact h.elim
 ·split at h
  ·rename_i a _ _ j i hs hd
   split at h
   ·rename_i hj hi
    rw [G7 hx]
    refine ⟨_,_,h,fun w=>?_,rfl⟩
    simp [convert,Gi hτ hs,Gi hτ hd,hj,hi]
   ·exact h.elim
  ·exact h.elim
 ·exact h.elim
def mxCV (mx:Bool):List AV→(CV→Prop)→Prop
 | [.one (.d (.int ka) a),.one (.d (.int kb) b)],k=>match mx with
  | true=>k (.d (.int ka) (if b>a then b else a))
  | false=>k (.d (.int ka) (if b<a then b else a))
 | [.one (.d (.int ka) a),.one (.d (.int kb) b),.one (.d (.int kc) c)],k=>match mx with
  | true=>k (.d (.int ka) (if c>(if b>a then b else a) then c else (if b>a then b else a)))
  | false=>k (.d (.int ka) (if c<(if b<a then b else a) then c else (if b<a then b else a)))
 | _,_=>False
theorem mxCV_run {mx:Bool} {xs:List AV} {vs:List Value} {k:CV→Prop} (h:mxCV mx xs k) (hx:All2 (fun x v=>AV.relR (CV.rel w im φ ln nx) x v) xs vs) (ts:Array TypeId) (t:TypeId) :
  ∃ r u,k r∧(∀ w,(if mx then Builtin.max_ ts t ⟨vs⟩ else Builtin.min_ ts t ⟨vs⟩).run P w = .ok u w)∧r.rel w im φ ln nx u:=by
 unfold mxCV at h
 split at h
 ·obtain _ | ⟨h1,_ | ⟨h2,_ | _⟩⟩:=hx
  rw [av_int h1,av_int h2]
  cases mx
  ·exact ⟨_,_,h,fun w=>by simp [Builtin.min_,Builtin.min2],rfl⟩
  ·exact ⟨_,_,h,fun w=>by simp [Builtin.max_,Builtin.max2],rfl⟩
 ·obtain _ | ⟨h1,_ | ⟨h2,_ | ⟨h3,_ | _⟩⟩⟩:=hx
  rw [av_int h1,av_int h2,av_int h3]
  cases mx
  ·exact ⟨_,_,h,fun w=>by simp [Builtin.min_,Builtin.min2],rfl⟩
  ·exact ⟨_,_,h,fun w=>by simp [Builtin.max_,Builtin.max2],rfl⟩
 ·exact h.elim
end
end Go.AM
