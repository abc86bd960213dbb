
import Derived.OrdersHeld
import Derived.Below
import Derived.KernelRfl
set_option linter.unusedVariables false
namespace Go.AM
open Go.RowKit (Below)
inductive Ty where
 | int (k:IntKind) | bool | str | sl (t:Ty) | u | p (a b:Ty)
 deriving DecidableEq
@[reducible] def Ty.D:Ty→Type
 | .int _=>Int
 | .bool=>Bool
 | .str=>ByteArray
 | .sl t=>List t.D
 | .u=>Unit
 | .p a b=>a.D×b.D
def Ty.n:Ty→Nat
 | .int _=>1
 | .bool=>1
 | .str=>1
 | .sl _=>1
 | .u=>0
 | .p a b=>a.n+b.n
def Ty.z:(t:Ty)→t.D
 | .int _=>(0:Int)
 | .bool=>false
 | .str=>⟨#[]⟩
 | .sl _=>[]
 | .u=>()
 | .p a b=>(a.z,b.z)
def Ty.zv:Ty→List Value
 | .int k=>[.int k 0]
 | .bool=>[.bool false]
 | .str=>[.string ⟨#[]⟩]
 | .sl _=>[.slice none 0 0]
 | .u=>[]
 | .p a b=>a.zv++b.zv
@[reducible] def rd {α:Type} (z:α) (xs:List α) (i:Int):α:=xs.getD i.toNat z
def Row {α:Type} (w:World) (b o n:Nat) (R:α→List Value→Prop) (xs:List α):Prop:=
 ∃ c T z,w.heap[b]?=some (.cells c T z)∧
  ∀ i (h:i<xs.length),∃ ds,R xs[i] ds∧ds.length=n∧∀ j (hj:j<ds.length),c[o+i*n+j]?=some ds[j]
def Ty.rel (w:World) (im:Nat→Prop):(t:Ty)→t.D→List Value→Prop
 | .int k,x,cs=>cs=[.int k x]
 | .bool,x,cs=>cs=[.bool x]
 | .str,x,cs=>cs=[.string x]
 | .u,_,cs=>cs=[]
 | .p a b,x,cs=>∃ c1 c2,cs=c1++c2∧Ty.rel w im a x.1 c1∧Ty.rel w im b x.2 c2
 | .sl t,xs,cs=>∃ A cap,cs=[.slice A xs.length cap]∧xs.length≤cap∧
   (xs≠[]→∃ b o,A=some ⟨b,o,none⟩∧im b∧Row w b o t.n (fun x ds=>Ty.rel w im t x ds) xs)
theorem Row.mono {α:Type} {w w':World} {b o n:Nat} {R R':α→List Value→Prop} {xs:List α} (h:Row w b o n R xs)
  (hb:w'.heap[b]?=w.heap[b]?) (hR:∀ x ds,R x ds→R' x ds):Row w' b o n R' xs:=by
 obtain ⟨c,T,z,h1,h2⟩:=h
 exact ⟨c,T,z,hb.trans h1,fun i hi=>let ⟨ds,h3,h4⟩:=h2 i hi;⟨ds,hR _ _ h3,h4⟩⟩
theorem Jv {w:World} {b:Nat} {o:Obj} (h:w.heap[b]?=some o):b<w.heap.size:=by
 rcases Nat.lt_or_ge b w.heap.size with h' | h'
 ·exact h'
 ·simp [Array.getElem?_eq_none h'] at h
theorem Row.lt {α:Type} {w:World} {b o n:Nat} {R:α→List Value→Prop} {xs:List α} (h:Row w b o n R xs):b<w.heap.size:=
 let ⟨_,_,_,h1,_⟩:=h;Jv h1
def Kept (im im':Nat→Prop) (w w':World):Prop:=∀ b,im b→b<w.heap.size→im' b∧w'.heap[b]?=w.heap[b]?
theorem Ty.rel_mono {w w':World} {im im':Nat→Prop} (hk:Kept im im' w w') :
  ∀ (t:Ty) (x:t.D) (cs:List Value),t.rel w im x cs→t.rel w' im' x cs
 | .int _,_,_,h=>h
 | .bool,_,_,h=>h
 | .str,_,_,h=>h
 | .u,_,_,h=>h
 | .p a b,x,_,⟨c1,c2,e,h1,h2⟩=>⟨c1,c2,e,Ty.rel_mono hk a x.1 c1 h1,Ty.rel_mono hk b x.2 c2 h2⟩
 | .sl t,xs,_,⟨A,cap,e,hc,h⟩=>⟨A,cap,e,hc,fun hne=>by
   obtain ⟨b,o,hA,hi,hr⟩:=h hne
   obtain ⟨h1,h2⟩:=hk b hi hr.lt
   exact ⟨b,o,hA,h1,hr.mono h2 (fun x ds hx=>Ty.rel_mono hk t x ds hx)⟩⟩
theorem Ty.rel_len {w:World} {im:Nat→Prop}:∀ (t:Ty) (x:t.D) (cs:List Value),t.rel w im x cs→cs.length=t.n
 | .int _,_,_,h=>by rw [show _=_ from h];rfl
 | .bool,_,_,h=>by rw [show _=_ from h];rfl
 | .str,_,_,h=>by rw [show _=_ from h];rfl
 | .u,_,_,h=>by rw [show _=_ from h];rfl
 | .p a b,x,_,⟨c1,c2,e,h1,h2⟩=>by
   subst e;simp only [List.length_append,Ty.n,Ty.rel_len a _ _ h1,Ty.rel_len b _ _ h2]
 | .sl t,xs,_,⟨A,cap,e,_⟩=>by subst e;rfl
theorem Ty.rel_oneCell {w:World} {im:Nat→Prop}:∀ (t:Ty) (x:t.D) (cs:List Value),t.rel w im x cs→∀ v ∈ cs,v.oneCell'=true
 | .int _,_,_,h=>by rw [show _=_ from h];simp [Value.oneCell']
 | .bool,_,_,h=>by rw [show _=_ from h];simp [Value.oneCell']
 | .str,_,_,h=>by rw [show _=_ from h];simp [Value.oneCell']
 | .u,_,_,h=>by rw [show _=_ from h];simp
 | .p a b,x,_,⟨c1,c2,e,h1,h2⟩=>by
   subst e;intro v hv
   rcases List.mem_append.1 hv with hv | hv
   ·exact Ty.rel_oneCell a _ _ h1 v hv
   ·exact Ty.rel_oneCell b _ _ h2 v hv
 | .sl t,xs,_,⟨A,cap,e,_⟩=>by subst e;simp [Value.oneCell']
theorem Ty.rel_zv {w:World} {im:Nat→Prop}:∀ (t:Ty),t.rel w im t.z t.zv
 | .int _=>rfl
 | .bool=>rfl
 | .str=>rfl
 | .u=>rfl
 | .p a b=>⟨a.zv,b.zv,rfl,Ty.rel_zv a,Ty.rel_zv b⟩
 | .sl t=>⟨none,0,rfl,Nat.le_refl _,fun h=>absurd rfl h⟩
inductive CV where
 | d (t:Ty) (x:t.D)
 | osl (id:Nat)
 | ptr (id off:Nat)
 | ep (id sz:Nat) (i:Int) (off:Nat)
 | wn (id:Nat) (lo hi:Int)
 | ip (t:Ty) (x:t.D) (off:Nat)
 | c (v:Value)
 | emp
inductive AV where
 | one (x:CV)
 | agg (cs:List CV)
 | tup (vs:List (Bool×List CV))
inductive Chunk where
 | cells (cs:List CV)
 | arr (e:TypeId) (t:Ty) (xs:List t.D)
 | pub (e:TypeId) (t:Ty) (xs:List t.D)
 | hol (e:TypeId) (t:Ty) (xs:List t.D) (i:Int) (cs:List CV)
structure St where
 env:List (Nat×AV)
 heap:List (Nat×Option Chunk)
 nx:Nat
def lk {α:Type}:List (Nat×α)→Nat→Option α
 | [],_=>none
 | (j,v)::r,i=>match Nat.beq j i with
  | true=>some v
  | false=>lk r i
def St.at (s:St) (id:Nat):Option Chunk:=match lk s.heap id with
 | some (some ch)=>some ch
 | _=>none
def Chunk.len:Chunk→Option Nat
 | .cells _=>none
 | .arr _ _ xs=>some xs.length
 | .pub _ _ xs=>some xs.length
 | .hol _ _ xs _ _=>some xs.length
def St.ln (s:St) (id:Nat):Option Nat:=match s.at id with
 | some ch=>ch.len
 | none=>none
abbrev Phi:=Nat→Option (Nat×Nat)
def CV.rel (w:World) (im:Nat→Prop) (φ:Phi) (ln:Nat→Option Nat) (nx:Nat):CV→Value→Prop
 | .d t x,v=>t.rel w im x [v]
 | .osl id,v=>id<nx∧v.oneCell'=true∧∀ n,ln id=some n→((∃ b cap,φ id=some (b,cap)∧v = .slice (some ⟨b,0,none⟩) n cap)∨(φ id=none∧n=0∧v = .slice none 0 0))
 | .ptr id off,v=>id<nx∧∃ b cap,φ id=some (b,cap)∧v = .pointer (some ⟨b,off,none⟩)
 | .ep id sz i off,v=>id<nx∧(∃ b cap,φ id=some (b,cap)∧v = .pointer (some ⟨b,i.toNat*sz+off,none⟩))∧∀ n,ln id=some n→i.toNat<n
 | .wn id lo hi,v=>id<nx∧v.oneCell'=true∧∀ n,ln id=some n→(0≤lo∧lo≤hi∧hi≤(n:Int))∧∃ A q,v = .slice A (hi.toNat-lo.toNat) q∧(lo<hi→∃ b cap,φ id=some (b,cap)∧A=some ⟨b,lo.toNat,none⟩)
 | .ip t x off,v=>∃ b o c T z ds,v = .pointer (some ⟨b,o+off,none⟩)∧im b∧w.heap[b]?=some (.cells c T z)∧t.rel w im x ds∧∀ j (hj:j<ds.length),c[o+j]?=some ds[j]
 | .c v',v=>v=v'∧v.oneCell'=true
 | .emp,v=>∃ A,v = .slice A 0 0
theorem CV.oneCell {w:World} {im:Nat→Prop} {φ:Phi} {ln:Nat→Option Nat} {nx:Nat} {x:CV} {v:Value} (h:x.rel w im φ ln nx v):v.oneCell'=true:=by
 cases x with
 | d t x=>exact Ty.rel_oneCell t x [v] h v (by simp)
 | osl id=>exact h.2.1
 | ptr id off=>obtain ⟨_,b,cap,_,rfl⟩:=h;rfl
 | ep id sz i off=>obtain ⟨_,⟨b,cap,_,rfl⟩,_⟩:=h;rfl
 | wn id lo hi=>exact h.2.1
 | ip t x off=>obtain ⟨b,o,c,T,z,ds,rfl,_⟩:=h;rfl
 | c v'=>exact h.2
 | emp=>obtain ⟨A,rfl⟩:=h;rfl
inductive All2 {α β:Type} (R:α→β→Prop):List α→List β→Prop
 | nil:All2 R [] []
 | cons {x:α} {y:β} {xs:List α} {ys:List β}:R x y→All2 R xs ys→All2 R (x::xs) (y::ys)
namespace All2
variable {α β:Type} {R R':α→β→Prop}
theorem mono (h:∀ x y,R x y→R' x y):∀ {xs:List α} {ys:List β},All2 R xs ys→All2 R' xs ys
 | _,_,.nil=>.nil
 | _,_,.cons h1 h2=>.cons (h _ _ h1) (mono h h2)
theorem len:∀ {xs:List α} {ys:List β},All2 R xs ys→xs.length=ys.length
 | _,_,.nil=>rfl
 | _,_,.cons _ h2=>by simp [len h2]
theorem append:∀ {xs xs':List α} {ys ys':List β},All2 R xs ys→All2 R xs' ys'→All2 R (xs++xs') (ys++ys')
 | _,_,_,_,.nil,h=>h
 | _,_,_,_,.cons h1 h2,h=>.cons h1 (append h2 h)
theorem take:∀ (n:Nat) {xs:List α} {ys:List β},All2 R xs ys→All2 R (xs.take n) (ys.take n)
 | 0,_,_,_=>by simpa using .nil
 | _+1,_,_,.nil=>.nil
 | n+1,_,_,.cons h1 h2=>.cons h1 (take n h2)
theorem drop:∀ (n:Nat) {xs:List α} {ys:List β},All2 R xs ys→All2 R (xs.drop n) (ys.drop n)
 | 0,_,_,h=>h
 | _+1,_,_,.nil=>.nil
 | n+1,_,_,.cons _ h2=>drop n h2
theorem get:∀ {xs:List α} {ys:List β},All2 R xs ys→∀ (i:Nat) (x:α),xs[i]?=some x→∃ y,ys[i]?=some y∧R x y
 | _,_,.nil,i,x,h=>by simp at h
 | _,_,.cons (y:=y) h1 _,0,x,h=>by simp at h;subst h;exact ⟨y,rfl,h1⟩
 | _,_,.cons _ h2,i+1,x,h=>by simpa using get h2 i x (by simpa using h)
theorem set:∀ {xs:List α} {ys:List β},All2 R xs ys→∀ (i:Nat) (x:α) (y:β),R x y→All2 R (xs.set i x) (ys.set i y)
 | _,_,.nil,_,_,_,_=>.nil
 | _,_,.cons _ h2,0,_,_,h=>.cons h h2
 | _,_,.cons h1 h2,i+1,x,y,h=>.cons h1 (set h2 i x y h)
theorem of_get:∀ {xs:List α} {ys:List β},xs.length=ys.length→(∀ (i:Nat) (x:α) (y:β),xs[i]?=some x→ys[i]?=some y→R x y)→All2 R xs ys
 | [],[],_,_=>.nil
 | [],_::_,h,_=>by simp at h
 | _::_,[],h,_=>by simp at h
 | x::xs,y::ys,h,hr=>.cons (hr 0 x y rfl rfl) (of_get (by simpa using h) (fun i a b ha hb=>hr (i+1) a b (by simpa using ha) (by simpa using hb)))
end All2
def toAV:Bool×List CV→AV
 | (false,[x])=>.one x
 | (false,_)=>.agg []
 | (true,cs)=>.agg cs
def RV.rel (R:CV→Value→Prop) (p:Bool×List CV) (v:Value):Prop:=
 match p with
 | (false,[x])=>R x v
 | (false,_)=>False
 | (true,cs)=>∃ vs,v = .agg ⟨vs⟩∧All2 R cs vs
def AV.relR (R:CV→Value→Prop):AV→Value→Prop
 | .one x,v=>R x v
 | .agg cs,v=>∃ vs,v = .agg ⟨vs⟩∧All2 R cs vs
 | .tup ps,v=>∃ us,v = .tuple ⟨us⟩∧All2 (RV.rel R) ps us
theorem RV.toAV {R:CV→Value→Prop} {p:Bool×List CV} {v:Value} (h:RV.rel R p v):(toAV p).relR R v:=by
 rcases p with ⟨b,cs⟩
 cases b with
 | true=>exact h
 | false=>match cs,h with
  | [x],h=>exact h
theorem RV.mono {R R':CV→Value→Prop} (h:∀ x y,R x y→R' x y) {p:Bool×List CV} {v:Value} (hp:RV.rel R p v):RV.rel R' p v:=by
 rcases p with ⟨b,cs⟩
 cases b with
 | true=>obtain ⟨vs,e,h1⟩:=hp;exact ⟨vs,e,h1.mono h⟩
 | false=>match cs,hp with
  | [x],hp=>exact h _ _ hp
theorem AV.mono {R R':CV→Value→Prop} (h:∀ x y,R x y→R' x y) {a:AV} {v:Value} (ha:a.relR R v):a.relR R' v:=by
 cases a with
 | one x=>exact h _ _ ha
 | agg cs=>obtain ⟨vs,e,h1⟩:=ha;exact ⟨vs,e,h1.mono h⟩
 | tup ps=>obtain ⟨us,e,h1⟩:=ha;exact ⟨us,e,h1.mono (fun _ _=>RV.mono h)⟩
def Chunk.live:Chunk→Bool
 | .pub ..=>false
 | _=>true
def Kj (w:World) (im:Nat→Prop) (φ:Phi) (ln:Nat→Option Nat) (nx:Nat) (id:Nat):Chunk→Prop
 | .cells cs=>∃ b cap,φ id=some (b,cap)∧∃ vs T,w.heap[b]?=some (.cells ⟨vs⟩ T (0,0))∧All2 (CV.rel w im φ ln nx) cs vs
 | .arr e t xs=>(φ id=none∧xs=[])∨∃ b cap,φ id=some (b,cap)∧xs.length≤cap∧cap≤maxLen∧∃ c,w.heap[b]?=some (.cells c e (0,0))∧c.size=cap*t.n∧
   ∀ i (h:i<xs.length),∃ ds,t.rel w im xs[i] ds∧ds.length=t.n∧∀ j (hj:j<ds.length),c[i*t.n+j]?=some ds[j]
 | .hol e t xs i cs=>(φ id=none∧xs=[])∨∃ b cap,φ id=some (b,cap)∧xs.length≤cap∧cap≤maxLen∧∃ c,w.heap[b]?=some (.cells c e (0,0))∧c.size=cap*t.n∧
   (∀ k (h:k<xs.length),k≠i.toNat→∃ ds,t.rel w im xs[k] ds∧ds.length=t.n∧∀ j (hj:j<ds.length),c[k*t.n+j]?=some ds[j])∧
   (i.toNat<xs.length→∃ ds,All2 (CV.rel w im φ ln nx) cs ds∧ds.length=t.n∧∀ j (hj:j<ds.length),c[i.toNat*t.n+j]?=some ds[j])
 | .pub _ t xs=>(φ id=none∧xs=[])∨∃ b cap,φ id=some (b,cap)∧xs.length≤cap∧(xs≠[]→im b∧Row w b 0 t.n (fun x ds=>t.rel w im x ds) xs)
def gtab:List (Nat×List Value):=[]
def Glo (w:World):Prop:=∀ b cs,(b,cs) ∈ gtab→∃ el fr,w.heap[b]?=some (.cells ⟨cs⟩ el fr)
structure GlOk (w:World) (e:Nat) (φ:Phi):Prop where
 g:Glo w
 o:∀ b cs,(b,cs) ∈ gtab→∀ i cap,i<e→φ i≠some (b,cap)
structure Ctx where
 w0:World
 im0:Nat→Prop
 e:Nat
 φ0:Phi
 ln0:Nat→Option Nat
 gl:GlOk w0 e φ0
def Ctx.mine (G:Ctx) (b:Nat):Prop:=∃ i cap,i<G.e∧G.φ0 i=some (b,cap)
def St.liveAt (s:St) (φ:Phi) (b:Nat):Prop:=∃ id ch cap,s.at id=some ch∧ch.live=true∧φ id=some (b,cap)
def Ctx.im (G:Ctx) (s:St) (φ:Phi) (b:Nat):Prop:=(G.im0 b∨G.w0.heap.size≤b∨G.mine b)∧¬s.liveAt φ b
structure Frame' (G:Ctx) (w:World):Prop where
 os:w.os=G.w0.os
 tape:w.tape=G.w0.tape
 output:w.output=G.w0.output
 size:G.w0.heap.size≤w.heap.size
 block:∀ b,b<G.w0.heap.size→¬G.mine b→w.heap[b]?=G.w0.heap[b]?
theorem Ctx.glo_lt {G:Ctx} {b:Nat} {cs:List Value} (hb:(b,cs) ∈ gtab):b<G.w0.heap.size:=by
 obtain ⟨el,fr,h⟩:=G.gl.g b cs hb
 exact (Array.getElem?_eq_some_iff.1 h).1
theorem Ctx.glo_no {G:Ctx} {b:Nat} {cs:List Value} (hb:(b,cs) ∈ gtab):¬(G.w0.heap.size≤b∨G.mine b):=by
 rintro (h | ⟨i,cap,h1,h2⟩)
 ·exact absurd (Ctx.glo_lt (G:=G) hb) (Nat.not_lt.2 h)
 ·exact G.gl.o b cs hb i cap h1 h2
theorem Ctx.glo {G:Ctx} {w:World} (h:Frame' G w):Glo w:=fun b cs hb=>by
 rw [h.block b (Ctx.glo_lt hb) (fun hm=>Ctx.glo_no (G:=G) hb (.inr hm))]
 exact G.gl.g b cs hb
structure Sat (G:Ctx) (φ:Phi) (s:St) (a:Act) (w:World):Prop where
 df:a.defers=[]
 prot:∀ i,i<G.e→φ i=G.φ0 i
 e_nx:G.e≤s.nx
 lnp:∀ i,i<G.e→∀ n,s.ln i=some n→G.ln0 i=some n
 frame:Frame' G w
 env:∀ i v,lk s.env i=some v→i<a.tmps.size∧v.relR (CV.rel w (G.im s φ) φ s.ln s.nx) (a.tmps.getD i undef)
 heap:∀ id ch,s.at id=some ch→id<s.nx∧Kj w (G.im s φ) φ s.ln s.nx id ch
 sep:∀ id id' ch ch' b cap cap',s.at id=some ch→s.at id'=some ch'→ch.live=true→ch'.live=true→φ id=some (b,cap)→φ id'=some (b,cap')→id=id'
 own:∀ id ch b cap,s.at id=some ch→ch.live=true→φ id=some (b,cap)→b<w.heap.size∧(G.w0.heap.size≤b∨G.mine b)
end Go.AM
