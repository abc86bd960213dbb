
import Derived.Test.YtokgamncgleelaaGreatAmV
set_option linter.unusedVariables false
set_option linter.unusedSimpArgs false
namespace Go.AM
def guCV (c c':CV):Option (Nat×Option Nat):=match c,c' with
 | .osl j,.osl i=>some (j,some i)
 | .osl j,_=>some (j,none)
 | .ptr j _,.ptr i _=>some (j,some i)
 | .ep j _ _ _,.ep i _ _ _=>some (j,some i)
 | .wn j _ _,.wn i _ _=>some (j,some i)
 | _,_=>none
def guL:List CV→List CV→List (Nat×Option Nat)
 | [],_=>[]
 | c::r,[]=>match guCV c noCV with
  | some p=>p::guL r []
  | none=>guL r []
 | c::r,c'::r'=>match guCV c c' with
  | some p=>p::guL r r'
  | none=>guL r r'
def guAV:AV→List CV
 | .one x=>[x]
 | .agg cs=>cs
 | .tup _=>[]
def guPat (p:Pat) (a:Option AV):List (Nat×Option Nat):=match p,a with
 | .raw _ cs,some a=>guL cs (guAV a)
 | _,_=>[]
def guEnv (env:List (Nat×AV)):List (Nat×Pat)→List (Nat×Option Nat)
 | []=>[]
 | (t,p)::r=>guPat p (lk env t)++guEnv env r
def guCh (ch:Chunk) (c:Option Chunk):List (Nat×Option Nat):=match ch,c with
 | .cells cs,some (.cells cs')=>guL cs cs'
 | .hol _ _ _ _ cs,some (.hol _ _ _ _ cs')=>guL cs cs'
 | .hol _ _ _ _ cs,none=>guL cs []
 | _,_=>[]
def guW (s:St) (J:List (Nat×Chunk)):Nat→List (Nat×Option Nat)→List (Nat×Option Nat)→List (Nat×Option Nat)
 | 0,_,done=>done
 | _+1,[],done=>done
 | n+1,(j,i)::todo,done=>match lk done j with
  | some _=>guW s J n todo done
  | none=>match lk J j with
   | some ch=>guW s J n (todo++guCh ch (match i with | some i=>s.at i | none=>none)) ((j,i)::done)
   | none=>guW s J n todo done
def guO (done:List (Nat×Option Nat)):List (Nat×Chunk)→Ren
 | []=>[]
 | (j,_)::r=>match lk done j with
  | some i=>(j,i)::guO done r
  | none=>guO done r
def guR (e:Nat) (s:St) (env:List (Nat×Pat)) (heap:List (Nat×Chunk)):Ren:=
 guO (guW s heap 100000 (guEnv s.env env++((heap.filter fun p=>Nat.blt p.1 e).map fun p=>(p.1,some p.1))) []) heap
theorem E4g {e:Nat} {s:St} {J:Sh} {ρ:Ren} (hρ:guR e s J.env J.heap=ρ) (h:(renB J.nx ρ []&&protB e ρ&&Nat.ble e J.nx)=true∧Weak ρ s J):toSh e s J:=
 ⟨[],[],[],[],_,h⟩
def pureB (o:Oper):Bool:=match o.op with
 | .move _=>true
 | .assign _=>true
 | .pick ..=>true
 | .build ..=>true
 | .load ..=>true
 | .nilCheck _=>true
 | .binOp ..=>true
 | .unOp ..=>true
 | .convert ..=>true
 | .fieldAddr ..=>true
 | .field ..=>true
 | .indexAddr ..=>true
 | .index ..=>true
 | .extract ..=>true
 | .slice ..=>true
 | .call c=>match c.callee with
  | .builtin .len=>true
  | .builtin .min=>true
  | .builtin .max=>true
  | _=>false
 | _=>false
def firstT (all:List Oper) (todo:List Nat):List Nat→Option Nat
 | []=>none
 | i::r=>match all[i]? with
  | some o=>match pureB o&&depsB o todo&&Me (fun k=>Nat.beq k i||(match all[k]? with
    | some ok=>edgeB ok i||o.apart all.toArray ok
    | none=>true)) todo with
   | true=>some i
   | false=>firstT all todo r
  | none=>firstT all todo r
def mkT (all:List Oper):Nat→List Nat→OT
 | 0,_=>.done
 | n+1,todo=>match todo with
  | []=>.done
  | _=>match firstT all todo todo with
   | some i=>.take i (mkT all n (remN i todo))
   | none=>(readyL all todo).foldr (fun i u=>.alt i (mkT all n (remN i todo)) u) .done
theorem rG {P:Program} {τ:TE} {nt:Nat} {s:St} {l:List Oper} {n:Nat} {k:St→Prop} (h:(edgesB l&&noSelB l)=true∧pubK [] s (fun s=>vcT P τ nt l [] (mkT l l.length (upTo 0 n)) none (upTo 0 n) [] s k)) :
  ∃ (t:OT) (mods:List (Nat×List Nat)) (ids:List Nat),(edgesB l&&noSelB l)=true∧pubK ids s (fun s=>vcT P τ nt l mods t none (upTo 0 n) [] s k):=⟨_,[],[],h⟩
theorem cTt {Y:Type} {β:Bool} {a b:Option Y} {y:Y} (h:β=true) (q:(bif β then a else b)=some y):a=some y:=by rw [h] at q;exact q
theorem cTf {Y:Type} {β:Bool} {a b:Option Y} {y:Y} (h:β=false) (q:(bif β then a else b)=some y):b=some y:=by rw [h] at q;exact q
theorem sumE {A B Y:Type} {s:Sum A B} {f:A→Option Y} {g:B→Option Y} {y:Y} (q:F5 s f g=some y):(∃ a,s = .inl a∧f a=some y)∨(∃ b,s = .inr b∧g b=some y):=by
 cases s with
 | inl a=>exact .inl ⟨a,rfl,q⟩
 | inr b=>exact .inr ⟨b,rfl,q⟩
theorem noneE {Y:Type} {y:Y} {P:Prop} (q:(none:Option Y)=some y):P:=nomatch q
theorem sumL {A B Y:Type} {a:A} {f:A→Option Y} {g:B→Option Y} {y:Y} (q:F5 (.inl a) f g=some y):f a=some y:=q
theorem sumR {A B Y:Type} {b:B} {f:A→Option Y} {g:B→Option Y} {y:Y} (q:F5 (.inr b) f g=some y):g b=some y:=q
def conF (args:List Pat) (hin:List (Nat×Chunk)) (e:Nat) {Y:Type} (o:Option Y) (ret:Y→List Pat) (hout:Y→List (Nat×Chunk)) (nout:Nat):Con:=⟨Unit,Y,e,fun _=>args,fun _=>hin,fun _=>o,ret,hout,nout⟩
class HD (P:Program) (f:outParam Nat) (args:outParam (List Pat)) (hin:outParam (List (Nat×Chunk))) (e:outParam Nat) {Y:Type} (o:Option Y) (ret:outParam (Y→List Pat)) (hout:outParam (Y→List (Nat×Chunk))) (nout:outParam Nat):Prop where
 i : ∃ fn, P.funcs[f]? = some fn ∧ fn.body.isSome = true ∧ (fn.name == "runtime.NumGoroutine") = false
 h:(conF args hin e o ret hout nout).Holds P f
theorem HD.of {P : Program} {f : Nat} {C : Con} (i : ∃ fn, P.funcs[f]? = some fn ∧ fn.body.isSome = true ∧ (fn.name == "runtime.NumGoroutine") = false) (h : C.Holds P f) (x : C.X) : HD P f (C.args x) (C.hin x) C.e (C.F x) C.ret C.hout C.nout :=
 ⟨i,fun _ y hF=>h x y hF⟩
def guC (s:St) (avs:List AV) (args:List Pat) (hin:List (Nat×Chunk)):Ren:=guO (guW s hin 100000 (guEnv (K4 0 avs) (La 0 args)) []) hin
def lendQ (ret:List Pat) (hout:List (Nat×Chunk)):Bool:=Me Pat.flat ret&&Me (fun p:Nat×Chunk=>p.2.flat) hout
def callB {Y:Type} (args:List Pat) (hin:List (Nat×Chunk)) (e:Nat) (o:Option Y) (ret:Y→List Pat) (hout:Y→List (Nat×Chunk)) (nout:Nat) (r:Y) (ρ:Ren) (lend:Bool) (avs:List AV) (nx:Nat) (k:AV→St→List Nat→Prop) (s:St):Prop:=
 (renB e ρ []&&Nat.beq avs.length args.length&&keysE 0 ρ hin)=true∧
   s.use fun e0 h0 n0=>datsK ⟨K4 0 avs,h0,n0⟩ (La 0 args) (fun ids=>pubK (match lend with | true=>[] | false=>ids) ⟨K4 0 avs,h0,n0⟩ (fun s1=>
   (lend=true→lendB (conF args hin e o ret hout nout) r ids ρ=true)∧Me Pat.wf (ret r)=true∧Me (fun p:Nat×Chunk=>p.2.live) (hout r)=true∧rawsE ρ s1 (La 0 args)∧heapE ρ s1 hin∧
   s1.use fun e1 h1 n1=>k (retA (gOut ρ n1) (ret r)) ⟨e0,outsH (gOut ρ n1) (hout r) (killH ρ h1),n1+nout⟩ (Lg nx (imgs ρ))))
theorem callB_k {P:Program} {f:Nat} {s:St} {avs:List AV} {k:AV→St→List Nat→Prop} {args:List Pat} {hin:List (Nat×Chunk)} {e:Nat} {Y:Type} {o:Option Y} {ret:Y→List Pat} {hout:Y→List (Nat×Chunk)} {nout:Nat}
  {r:Y} (q:o=some r) (H:HD P f args hin e o ret hout nout) {ρ:Ren} {lend:Bool} {nx:Nat} (h:callB args hin e o ret hout nout r ρ lend avs nx k s):callK P f s avs (fun v s' m=>k v s' (Lg nx m)):=by
 unfold callB at h
 simp only [Bool.and_eq_true] at h
 exact cQ (conF args hin e o ret hout nout) () r ρ lend H.h q (by simp only [Bool.and_eq_true];exact h.1.1) h.1.2 h.2
theorem cL {P:Program} {f:Nat} {s:St} {avs:List AV} {k:AV→St→List Nat→Prop} {R:Prop} {args:List Pat} {hin:List (Nat×Chunk)} {e:Nat} {Y:Type} {o:Option Y} {ret:Y→List Pat} {hout:Y→List (Nat×Chunk)} {nout:Nat}
  {r:Y} {ρ:Ren} (q:o=some r) [H:HD P f args hin e o ret hout nout] (hρ:guC s avs args hin=ρ) (h3:callB args hin e o ret hout nout r ρ (lendQ (ret r) (hout r)) avs s.nx k s) :
  ((∃ fn, P.funcs[f]? = some fn ∧ fn.body.isSome = true ∧ (fn.name == "runtime.NumGoroutine") = false) ∧ callV P f s avs k) ∨ R :=
 .inl ⟨H.i,cV (callB_k q H h3)⟩
theorem lQ {a b:Bool} (h:(!a||b)=true):a=true→b=true:=by
 intro e
 subst e
 exact h
theorem virtK_mono:∀ (ns:List (Nat×Nat×TypeId×Ty)) (s:St) (A B:St→Prop),(∀ s,A s→B s)→virtK ns s A→virtK ns s B
 | [],s,A,B,hAB,h=>hAB _ h
 | (id,off,e1,t)::l,s,A,B,hAB,h=>by
  unfold virtK at h ⊢
  revert h
  split
  ·split
   ·exact fun h=>virtK_mono l _ _ _ hAB h
   ·exact fun h=>h
  ·exact fun h=>h
theorem cLn {P:Program} {f:Nat} {s:St} {avs:List AV} {k:AV→St→List Nat→Prop} {R:Prop} {args:List Pat} {hin:List (Nat×Chunk)} {e:Nat} {Y:Type} {o:Option Y} {ret:Y→List Pat} {hout:Y→List (Nat×Chunk)} {nout:Nat}
  {r:Y} (q:o=some r) [H:HD P f args hin e o ret hout nout] (ns:List (Nat×Nat×TypeId×Ty)) (ρ:Ren) (lend:Bool)
  (h:virtK ns s (callB args hin e o ret hout nout r ρ lend avs s.nx k)) :
  ((∃ fn, P.funcs[f]? = some fn ∧ fn.body.isSome = true ∧ (fn.name == "runtime.NumGoroutine") = false) ∧ callV P f s avs k) ∨ R :=
 .inl ⟨H.i,callVn ns (virtK_mono ns s _ _ (fun s1 h=>callB_k q H h) h)⟩
theorem cL0 {P : Program} {f : Nat} {s : St} {avs : List AV} {k : AV → St → List Nat → Prop} {R : Prop} (h : ((∃ fn, P.funcs[f]? = some fn ∧ fn.body.isSome = true ∧ (fn.name == "runtime.NumGoroutine") = false) ∧ callV P f s avs k) ∨ R) :
  ((∃ fn, P.funcs[f]? = some fn ∧ fn.body.isSome = true ∧ (fn.name == "runtime.NumGoroutine") = false) ∧ callV P f s avs k) ∨ R := h
theorem cX {P:Program} {f:Nat} {A:Prop} {g:List Int→Option (List Int)} {B:(List Int→Option (List Int))→List Int→Prop} (ys:List Int) (i:ExtI P f g) (h:B g ys):A∨(∃ g ys,ExtI P f g∧B g ys):=.inr ⟨g,ys,i,h⟩
end Go.AM
