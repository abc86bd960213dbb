
import Derived.Test.YtokgamncgleelaaGreatAmU
import GoSem.Extern.MathBitsCarry
set_option linter.unusedVariables false
set_option linter.unusedSimpArgs false
namespace Go.AM
theorem TI.ok_of {P:Program} {t:TypeId} {i:TI} (h1:P.underlying t=some i.desc) (h2:(P.info? t).map (fun j=>(j.size,j.bytes,j.zero))=some (i.size,i.bytes,some i.zero))
  (h3:∀ y,i.ty=some y→y.n=i.size∧i.zero.cells.toList=y.zv) (h4:∀ v ∈ i.zero.cells.toList,v.oneCell'=true):i.Ok P t:=by
 refine ⟨h1,?_,h3,h4⟩
 cases h:P.info? t with
 | none=>rw [h] at h2;cases h2
 | some j=>
  rw [h] at h2
  simp only [Option.map_some,Option.some.injEq,Prod.mk.injEq] at h2
  exact ⟨j,rfl,h2.1,h2.2.1,h2.2.2⟩
def Ey {Y:Type} (p:Prop) [Decidable p] (r:Option Y):Option Y:=if p then r else none
def D4 {X Y:Type} (x:Option X) (f:X→Option Y):Option Y:=match x with
 | some x=>f x
 | none=>none
theorem gE {Y:Type} {p:Prop} [Decidable p] {r:Option Y} {y:Y} (h:Ey p r=some y):p∧r=some y:=by
 unfold Ey at h
 split at h
 ·exact ⟨‹p›,h⟩
 ·cases h
theorem bE {X Y:Type} {x:Option X} {f:X→Option Y} {y:Y} (h:D4 x f=some y):∃ v,x=some v∧f v=some y:=by
 cases x with
 | none=>cases h
 | some v=>exact ⟨v,rfl,h⟩
theorem sE {Y:Type} {x y:Y} (h:some x=some y):x=y:=Option.some.inj h
theorem cI {Y:Type} {β:Bool} {a b:Option Y} {y:Y} {A B:Prop} (h:(bif β then a else b)=some y) (ha:a=some y→A) (hb:b=some y→B):(β=true→A)∧(β=false→B):=
 ⟨fun e=>ha (by rw [e] at h;exact h),fun e=>hb (by rw [e] at h;exact h)⟩
theorem cN {Y:Type} {β:Bool} {a b:Option Y} {y:Y} {A B:Prop} (h:(bif β then a else b)=some y) (hb:b=some y→A) (ha:a=some y→B):(β=false→A)∧(β=(!false)→B):=
 ⟨fun e=>hb (by rw [e] at h;exact h),fun e=>ha (by rw [e] at h;exact h)⟩
theorem cT {A B:Prop} (h:A):(true=true→A)∧(true=false→B):=⟨fun _=>h,fun e=>nomatch e⟩
theorem cF {A B:Prop} (h:B):(false=true→A)∧(false=false→B):=⟨fun e=>(nomatch e),fun _=>h⟩
theorem gX {A B:Prop} (h:A):(true=true→A)∧(true=(!true)→B):=⟨fun _=>h,fun e=>nomatch e⟩
theorem gY {A B:Prop} (h:A):(false=false→A)∧(false=(!false)→B):=⟨fun _=>h,fun e=>nomatch e⟩
theorem gM {A B:Prop} (h:B):(false=true→A)∧(false=(!true)→B):=⟨fun e=>(nomatch e),fun _=>h⟩
theorem gN {A B:Prop} (h:B):(true=false→A)∧(true=(!false)→B):=⟨fun e=>(nomatch e),fun _=>h⟩
theorem gI {Y:Type} {p:Prop} [Decidable p] {r:Option Y} {y:Y} {A:Prop} (h:Ey p r=some y) (k:r=some y→A):p∧A:=⟨(gE h).1,k (gE h).2⟩
def nilF {X Y:Type} [DecidableEq Y] (xs:List X) (a b:Option Y):Option Y:=match xs with
 | []=>if a=b then b else none
 | _::_=>b
theorem nilI {X Y:Type} [DecidableEq Y] {xs:List X} {a b:Option Y} {y:Y} {Q:Bool→Prop} (h:nilF xs a b=some y) (ha:a=some y→Q true) (hb:b=some y→Q false) :
  ∀ β:Bool,(β=true→List.length xs=0)→Q β:=by
 intro β hβ
 cases β with
 | true=>
  have:=List.eq_nil_of_length_eq_zero (hβ rfl)
  subst this
  simp only [nilF] at h
  split at h
  ·rename_i e;exact ha (by rw [e];exact h)
  ·cases h
 | false=>
  cases xs with
  | nil=>
   simp only [nilF] at h
   split at h
   ·exact hb h
   ·cases h
  | cons x xs=>exact hb h
def nthO {Y:Type}:List (Option Y)→Nat→Option Y
 | [],_=>none
 | x::_,0=>x
 | _::r,n+1=>nthO r n
def pickF {Y:Type} (i:Int) (l:List (Option Y)):Option Y:=nthO l i.toNat
theorem Jp {Y:Type} {i:Int} {l:List (Option Y)} {y:Y} {j:Nat} (h:pickF i l=some y) (e:i=Int.ofNat j):nthO l j=some y:=by
 rw [e] at h;exact h
theorem rE {i:Int} {j n:Nat} (e:i=Int.ofNat j) (h:j<n):0≤i∧i<(n:Int):=by
 rw [e];exact ⟨Int.natCast_nonneg j,Int.ofNat_lt.2 h⟩
def F5 {A B Y:Type} (s:Sum A B) (f:A→Option Y) (g:B→Option Y):Option Y:=match s with
 | .inl a=>f a
 | .inr b=>g b
def Fp {X Z:Type} (B:(X→Option Z)→X→Option Z):Nat→X→Option Z
 | 0,_=>none
 | n+1,x=>B (Fp B n) x
theorem F3 {A B:Type} {Q:A×B→Prop} (h:∀ a b,Q (a,b)):∀ x,Q x:=fun x=>h x.1 x.2
def Fq:Nat:=18446744073709551616
theorem lZ {X Z:Type} {B:(X→Option Z)→X→Option Z} {x:X} {z:Z} (h:Fp B 0 x=some z):False:=nomatch h
theorem cQ {P:Program} {f:FuncId} {s:St} {avs:List AV} {k:AV→St→List Nat→Prop} (C:Con) (x:C.X) (y:C.Y) (ρ:Ren) (lend:Bool) (h1:C.Holds P f) (h2:C.F x=some y)
  (h3:(renB C.e ρ []&&Nat.beq avs.length (C.args x).length)=true) (h4:keysE 0 ρ (C.hin x)=true)
  (h5:s.use fun e0 h0 n0=>datsK ⟨K4 0 avs,h0,n0⟩ (La 0 (C.args x)) (fun ids=>pubK (match lend with | true=>[] | false=>ids) ⟨K4 0 avs,h0,n0⟩ (fun s1=>
   (lend=true→lendB C y ids ρ=true)∧Me Pat.wf (C.ret y)=true∧Me (fun p:Nat×Chunk=>p.2.live) (C.hout y)=true∧rawsE ρ s1 (La 0 (C.args x))∧heapE ρ s1 (C.hin x)∧
   s1.use fun e1 h1 n1=>k (retA (gOut ρ n1) (C.ret y)) ⟨e0,outsH (gOut ρ n1) (C.hout y) (killH ρ h1),n1+C.nout⟩ (imgs ρ)))):callK P f s avs k:=⟨C,x,y,ρ,lend,h1,h2,h3,h4,h5⟩
theorem cV {P:Program} {f:FuncId} {s:St} {avs:List AV} {k:AV→St→List Nat→Prop} (h:callK P f s avs (fun v s' m=>k v s' (Lg s.nx m))):callV P f s avs k:=⟨[],h⟩
theorem callVn {P:Program} {f:FuncId} {s:St} {avs:List AV} {k:AV→St→List Nat→Prop} (ns:List (Nat×Nat×TypeId×Ty)) (h:virtK ns s (fun s1=>callK P f s1 avs (fun v s' m=>k v s' (Lg s.nx m)))):callV P f s avs k:=⟨ns,h⟩
theorem virt0 {s:St} {k:St→Prop} (h:k s):virtK [] s k:=h
theorem virtI {e0:List (Nat×AV)} {h:List (Nat×Option Chunk)} {n id off:Nat} {e:TypeId} {t:Ty} {r:List (Nat×Nat×TypeId×Ty)} {k:St→Prop} {cs:List CV} (h1:St.at ⟨e0,h,n⟩ id=some (.cells cs)) (h2:isNilB cs[off]?=true)
  (h3:virtK r ⟨e0,(id,some (.cells (cs.set off (.osl n))))::(n,some (.arr e t []))::h,n+1⟩ k):virtK ((id,off,e,t)::r) ⟨e0,h,n⟩ k:=by
 simp only [virtK,h1,h2,St.use_eq]
 exact h3
@[irreducible] def add64 (x y c:Int):Option (Int×Int):=match Nat.ble c.toNat 1 with
 | true=>some (Int.ofNat ((x.toNat+y.toNat+c.toNat)%18446744073709551616),Int.ofNat ((x.toNat+y.toNat+c.toNat)/18446744073709551616))
 | false=>none
@[irreducible] def sub64 (x y c:Int):Option (Int×Int):=match Nat.ble c.toNat 1 with
 | true=>some (Int.ofNat ((x.toNat+18446744073709551616-y.toNat-c.toNat)%18446744073709551616),if x.toNat<y.toNat+c.toNat then 1 else 0)
 | false=>none
def ext3 (f:Int→Int→Int→Option (Int×Int)):List Int→Option (List Int)
 | [x,y,c]=>match f x y c with
  | some r=>some [r.1,r.2]
  | none=>none
 | _=>none
theorem ext3I {f:Int→Int→Int→Option (Int×Int)} {x y c:Int} {r:Int×Int} (h:f x y c=some r):ext3 f [x,y,c]=some [r.1,r.2]:=by
 simp [ext3,h]
theorem three_run {P:Program} (n:String) (x y c:Int) (hc:¬c.toNat>1) (w:World):(Extern.MathBitsCarry.three n #[.int .u64 x,.int .u64 y,.int .u64 c]).run P w = .ok (x.toNat,y.toNat,c.toNat) w:=by
 have e:Extern.MathBitsCarry.three n #[.int .u64 x,.int .u64 y,.int .u64 c]=(do
  let c:=(← asInt (.int .u64 c)).toNat
  if c > 1 then unsupported (.noEntry ("extern/math/bits." ++ n ++ ": a carry that is neither 0 nor 1"))
  pure ((← asInt (.int .u64 x)).toNat,(← asInt (.int .u64 y)).toNat,c)):=rfl
 rw [e]
 simp [asInt,asIntOf,hc]
 omega
theorem ext_add64 {P : Program} {f : FuncId} {fn : Func} (hf : P.funcs[f]? = some fn) (hname : (fn.name == "runtime.NumGoroutine") = false) (hb : fn.body.isNone = true)
  (hn:Extern.findNext fn=none) (he:Extern.find fn=(Extern.MathBitsCarry.rows[0]?).map (·.2)):ExtI P f (ext3 add64):=by
 intro xs ys w h
 simp only [Extern.MathBitsCarry.rows,List.getElem?_cons_zero,List.getElem?_cons_succ,Option.map_some] at he
 rw [run_callFunc_extern hf hname hb hn he]
 match xs,h with
 | [x,y,c],h=>
  simp only [ext3,add64] at h
  split at h
  ·rename_i r hr
   split at hr
   ·rename_i hc
    have hc:=Nat.le_of_ble_eq_true hc
    cases hr
    cases h
    have hc':¬c.toNat>1:=by omega
    simp [three_run _ _ _ _ hc',Extern.MathBitsCarry.pair,Extern.MathBitsCarry.m64,retV]
   ·cases hr
  ·cases h
theorem ext_sub64 {P : Program} {f : FuncId} {fn : Func} (hf : P.funcs[f]? = some fn) (hname : (fn.name == "runtime.NumGoroutine") = false) (hb : fn.body.isNone = true)
  (hn:Extern.findNext fn=none) (he:Extern.find fn=(Extern.MathBitsCarry.rows[1]?).map (·.2)):ExtI P f (ext3 sub64):=by
 intro xs ys w h
 simp only [Extern.MathBitsCarry.rows,List.getElem?_cons_zero,List.getElem?_cons_succ,Option.map_some] at he
 rw [run_callFunc_extern hf hname hb hn he]
 match xs,h with
 | [x,y,c],h=>
  simp only [ext3,sub64] at h
  split at h
  ·rename_i r hr
   split at hr
   ·rename_i hc
    have hc:=Nat.le_of_ble_eq_true hc
    cases hr
    cases h
    have hc':¬c.toNat>1:=by omega
    simp [three_run _ _ _ _ hc',Extern.MathBitsCarry.pair,Extern.MathBitsCarry.m64,retV]
    split <;> rfl
   ·cases hr
  ·cases h
end Go.AM
