
import Derived.Test.YtokgamncgleelaaGreatAmH
set_option linter.unusedVariables false
set_option linter.unusedSimpArgs false
namespace Go.AM
def bt (s:ByteArray) (i:Int):Int:=((s.data.toList.getD i.toNat 0).toNat:Int)
def ixC (n:Nat) (i:Int) (K:Prop):Prop:=(0≤i∧i<(n:Int))∧K
def arIx (id off sz j:Nat):CV:=.ptr id (off+j*sz)
def splitL:Nat→Nat→Int→(Nat→Prop)→Prop
 | 0,_,_,_=>True
 | m+1,j,i,k=>(i=Int.ofNat j→k j)∧splitL m (j+1) i k
theorem splitL_spec:∀ {m j:Nat} {i:Int} {k:Nat→Prop},splitL m j i k→(j:Int)≤i→i<(j:Int)+(m:Int)→k i.toNat
 | 0,j,i,k,_,h1,h2=>by omega
 | m+1,j,i,k,h,h1,h2=>by
  by_cases e:i=(j:Int)
  ·have:=h.1 e
   rw [e]
   exact this
  ·exact splitL_spec h.2 (by omega) (by omega)
def epIx (id sz:Nat) (i:Int):CV:=.ep id sz i 0
def ipIx (t:Ty) (xs:List t.D) (i:Int):CV:=.ip t (rd t.z xs i) 0
def ixK (τ:TE) (T:TypeId) (s:St) (x:CV) (ix:CV) (k:CV→Prop):Prop:=
 match lk τ T,ix with
 | some j,.d (.int _) i=>match j.desc with
  | .slice e=>match lk τ e with
   | some ie=>match ie.ty with
    | some t=>match x with
     | .d (.sl t') xs=>Ty.eqK (.sl t) (.sl t') xs (fun ys=>ixC ys.length i (k (ipIx t ys i)))
     | .osl id=>match s.at id with
      | some (.arr _ t' xs)=>Ty.eqK (.sl t) (.sl t') xs (fun ys=>ixC ys.length i (k (epIx id t.n i)))
      | some (.pub _ t' xs)=>Ty.eqK (.sl t) (.sl t') xs (fun ys=>ixC ys.length i (k (epIx id t.n i)))
      | some (.hol _ t' xs _ _)=>Ty.eqK (.sl t) (.sl t') xs (fun ys=>ixC ys.length i (k (epIx id t.n i)))
      | _=>False
     | _=>False
    | none=>False
   | none=>False
  | .array n e=>match lk τ e with
   | some ie=>match x with
    | .ptr id off=>ixC n i (splitL n 0 i (fun j=>k (arIx id off ie.size j)))
    | _=>False
   | none=>False
  | _=>False
 | _,_=>False
section
variable {P:Program} {τ:TE} {G:Ctx} {φ:Phi} {s:St} {a:Act} {w:World}
theorem ix_run (hτ:τ.Ok P) {T e:TypeId} {j ie:TI} (hj:lk τ T=some j) (hd:j.desc = .slice e) (hie:lk τ e=some ie) {kk:IntKind} {i:Int} {b o n cap:Nat} (h0:0≤i) (h1:i<n) (w:World) :
  (Instr.indexAt T (.slice (some ⟨b,o,none⟩) n cap) (.int kk i)).run P w = .ok (.pointer (some ⟨b,o+i.toNat*ie.size,none⟩)) w:=by
 have hu:=Gi hτ hj w
 rw [hd] at hu
 have hs:=Jj (P:=P) hτ hie w
 unfold Instr.indexAt
 simp only [asIntOf,Sem.run_bind,Sem.run_pure,Result.andThen_ok,hu]
 simp [h0,h1,hs,J5]
theorem ixA_run (hτ:τ.Ok P) {T e:TypeId} {j ie:TI} {n:Nat} (hj:lk τ T=some j) (hd:j.desc = .array n e) (hie:lk τ e=some ie) {kk:IntKind} {i:Int} {b o:Nat} (h0:0≤i) (h1:i<n) (w:World) :
  (Instr.indexAt T (.pointer (some ⟨b,o,none⟩)) (.int kk i)).run P w = .ok (.pointer (some ⟨b,o+i.toNat*ie.size,none⟩)) w:=by
 have hu:=Gi hτ hj w
 rw [hd] at hu
 have hs:=Jj (P:=P) hτ hie w
 unfold Instr.indexAt
 simp only [asIntOf,Instr.sureAddr,Sem.run_bind,Sem.run_pure,Result.andThen_ok,hu]
 simp [h0,h1,hs,J5]
theorem ix_spec (hτ:τ.Ok P) (h:Sat G φ s a w) {T:TypeId} {x ix:CV} {vx vi:Value} {k:CV→Prop} (hk:ixK τ T s x ix k)
  (hx:CV.rel w (G.im s φ) φ s.ln s.nx x vx) (hi:CV.rel w (G.im s φ) φ s.ln s.nx ix vi) :
  ∃ r u,k r∧(∀ w',(Instr.indexAt T vx vi).run P w' = .ok u w')∧CV.rel w (G.im s φ) φ s.ln s.nx r u:=by
 unfold ixK at hk
 split at hk
 ·rename_i j kk i hj
  rw [Gj hi]
  generalize hii:(i:Int)=i' at hk ⊢
  split at hk
  ·rename_i e hd
   split at hk
   ·rename_i ie hie
    split at hk
    ·rename_i t ht
     obtain ⟨hn,_⟩:=(hτ e ie hie).ty t ht
     split at hk
     ·obtain ⟨xs,hk',h2,h3⟩:=Ty.eqK_spec hk
      cases h2
      cases h3
      obtain ⟨⟨h0,h1⟩,hk⟩:=hk'
      have hlt:i'.toNat<xs.length:=by omega
      obtain ⟨A,cap,ee,hc,hr⟩:=hx
      have hne:xs≠[]:=fun e0=>by rw [e0] at hlt;simp at hlt
      obtain ⟨b,o,rfl,him,hrow⟩:=hr hne
      simp only [List.cons.injEq,and_true] at ee
      subst ee
      refine ⟨_,_,hk,fun w'=>ix_run hτ hj hd hie h0 h1 w',?_⟩
      obtain ⟨c,T',z,r1,r2⟩:=hrow
      obtain ⟨ds,r3,r4,r5⟩:=r2 i'.toNat hlt
      refine ⟨b,o+i'.toNat*ie.size,c,T',z,ds,by simp,him,r1,?_,fun j hj=>?_⟩
      ·rw [rd_get _ _ _ hlt];exact r3
      ·rw [← hn];exact r5 j hj
     ·split at hk
      ·rename_i id _ e' t' xs' hat
       obtain ⟨xs,hk',h2,h3⟩:=Ty.eqK_spec hk
       cases h2
       cases h3
       obtain ⟨⟨h0,h1⟩,hk⟩:=hk'
       have hlt:i'.toNat<xs.length:=by omega
       have hne:xs≠[]:=fun e0=>by rw [e0] at hlt;simp at hlt
       rcases (h.osl_list hat hx).2 with ⟨_,e0,_⟩ | ⟨b,cap,h4,rfl⟩
       ·exact absurd e0 hne
       ·refine ⟨_,_,hk,fun w'=>ix_run hτ hj hd hie h0 h1 w',hx.1,⟨b,cap,h4,?_⟩,fun n hn'=>?_⟩
        ·rw [hn];simp
        ·rw [J0 hat] at hn';cases hn';exact hlt
      ·rename_i id _ e' t' xs' hat
       obtain ⟨xs,hk',h2,h3⟩:=Ty.eqK_spec hk
       cases h2
       cases h3
       obtain ⟨⟨h0,h1⟩,hk⟩:=hk'
       have hlt:i'.toNat<xs.length:=by omega
       have hne:xs≠[]:=fun e0=>by rw [e0] at hlt;simp at hlt
       obtain ⟨x1,x2,x3⟩:=hx
       rcases x3 _ (Lr hat) with ⟨b,cap,h4,rfl⟩ | ⟨_,h5,_⟩
       ·refine ⟨_,_,hk,fun w'=>ix_run hτ hj hd hie h0 h1 w',x1,⟨b,cap,h4,?_⟩,fun n hn'=>?_⟩
        ·rw [hn];simp
        ·rw [Lr hat] at hn';cases hn';exact hlt
       ·omega
      ·rename_i id _ e' t' xs' q cs hat
       obtain ⟨xs,hk',h2,h3⟩:=Ty.eqK_spec hk
       cases h2
       cases h3
       obtain ⟨⟨h0,h1⟩,hk⟩:=hk'
       have hlt:i'.toNat<xs.length:=by omega
       have hln:s.ln id=some xs.length:=by simp [St.ln,hat,Chunk.len]
       obtain ⟨x1,x2,x3⟩:=hx
       rcases x3 _ hln with ⟨b,cap,h4,rfl⟩ | ⟨_,h5,_⟩
       ·refine ⟨_,_,hk,fun w'=>ix_run hτ hj hd hie h0 h1 w',x1,⟨b,cap,h4,?_⟩,fun n hn'=>?_⟩
        ·rw [hn];simp
        ·rw [hln] at hn';cases hn';exact hlt
       ·omega
      ·exact hk.elim
     ·exact hk.elim
    ·exact hk.elim
   ·exact hk.elim
  ·rename_i n e hd
   split at hk
   ·rename_i ie hie
    split at hk
    ·obtain ⟨⟨h0,h1⟩,hk⟩:=hk
     obtain ⟨x1,b,cap,x2,rfl⟩:=hx
     exact ⟨_,_,splitL_spec hk (by omega) (by omega),fun w'=>ixA_run hτ hj hd hie h0 h1 w',x1,b,cap,x2,rfl⟩
    ·exact hk.elim
   ·exact hk.elim
  ·exact hk.elim
 ·exact hk.elim
def fldK (τ:TE) (S:TypeId) (x:CV) (f:Nat) (k:CV→Prop):Prop:=
 match lk τ S with
 | some j=>match j.desc with
  | .struct fs=>nth fs.toList f (fun fd=>match lk τ fd.type with
   | some fi=>match Nat.ble 1 fi.size with
    | true=>match x with
     | .ptr id off=>k (.ptr id (off+fd.offset))
     | .ep id sz i off=>k (.ep id sz i (off+fd.offset))
     | .ip t x off=>k (.ip t x (off+fd.offset))
     | _=>False
    | false=>False
   | none=>False)
  | _=>False
 | none=>False
theorem fld_spec (hτ:τ.Ok P) (h:Sat G φ s a w) {S:TypeId} {x:CV} {vx:Value} {f:Nat} {k:CV→Prop} (hk:fldK τ S x f k)
  (hx:CV.rel w (G.im s φ) φ s.ln s.nx x vx) :
  ∃ r u,k r∧(∀ w',(Instr.fieldAt S vx f).run P w' = .ok u w')∧CV.rel w (G.im s φ) φ s.ln s.nx r u:=by
 unfold fldK at hk
 split at hk
 ·rename_i j hj
  split at hk
  ·rename_i fs hd
   obtain ⟨fd,hfd,hk⟩:=Jz _ _ _ hk
   split at hk
   ·rename_i fi hfi
    split at hk
    ·rename_i hb
     have hb:=Nat.le_of_ble_eq_true hb
     have run:∀ b o (w':World),(Instr.fieldAt S (.pointer (some ⟨b,o,none⟩)) f).run P w' = .ok (.pointer (some ⟨b,o+fd.offset,none⟩)) w':=by
      intro b o w'
      have hu:=Gi hτ hj w'
      rw [hd] at hu
      have hs:=Jj (P:=P) hτ hfi w'
      have hget:fs[f]?=some fd:=by rw [← Array.getElem?_toList];exact hfd
      unfold Instr.fieldAt fieldPlace
      simp only [Sem.run_bind,hu,Result.andThen_ok,hget,Instr.sureAddr,Sem.run_pure,hs]
      rw [if_neg (by omega)]
      simp [J5]
     split at hk
     ·obtain ⟨x1,b,cap,x2,rfl⟩:=hx
      exact ⟨_,_,hk,fun w'=>run _ _ w',x1,b,cap,x2,rfl⟩
     ·obtain ⟨x1,⟨b,cap,x2,rfl⟩,x3⟩:=hx
      exact ⟨_,_,hk,fun w'=>run _ _ w',x1,⟨b,cap,x2,by rw [Nat.add_assoc]⟩,x3⟩
     ·obtain ⟨b,o,c,T,z,ds,rfl,x2⟩:=hx
      exact ⟨_,_,hk,fun w'=>run _ _ w',b,o,c,T,z,ds,by rw [Nat.add_assoc],x2⟩
     ·exact hk.elim
    ·exact hk.elim
   ·exact hk.elim
  ·exact hk.elim
 ·exact hk.elim
def partK (τ:TE) (T:TypeId) (cs:List CV) (off:Nat) (k:AV→Prop):Prop:=
 match lk τ T with
 | some i=>match isA i.desc with
  | true=>dp off cs (fun r=>tk i.size r (fun ys=>k (.agg ys)))
  | false=>nth cs off (fun y=>k (.one y))
 | none=>False
theorem part_spec (hτ:τ.Ok P) {R:CV→Value→Prop} {T:TypeId} {cs:List CV} {vs:List Value} {off:Nat} {k:AV→Prop} (hk:partK τ T cs off k) (hv:All2 R cs vs) :
  ∃ r u,k r∧(∀ w',(part T ⟨vs⟩ off).run P w' = .ok u w')∧r.relR R u:=by
 unfold partK at hk
 split at hk
 ·rename_i i hi
  split at hk
  ·rename_i hA
   obtain ⟨l1,l2⟩:=dp_spec _ _ _ hk
   obtain ⟨l3,l4⟩:=tk_spec _ _ _ l2
   refine ⟨_,.agg ⟨(vs.drop off).take i.size⟩,l4,fun w'=>?_,⟨_,rfl,(hv.drop off).take i.size⟩⟩
   simp only [part,Sem.run_bind,J1 hτ hi,hA,Result.andThen_ok,if_true,Jj hτ hi,Sem.run_pure]
   congr 2
   apply Array.ext'
   simp [Array.toList_extract,List.extract_eq_take_drop]
  ·rename_i hA
   obtain ⟨y,l1,l2⟩:=Jz _ _ _ hk
   obtain ⟨u,l3,l4⟩:=hv.get _ _ l1
   refine ⟨_,u,l2,fun w'=>?_,l4⟩
   simp only [part,Sem.run_bind,J1 hτ hi,hA,Result.andThen_ok,Bool.false_eq_true,if_false]
   simp [l3]
 ·exact hk.elim
def fieldK (τ:TE) (S:TypeId) (x:AV) (f:Nat) (k:AV→Prop):Prop:=
 match lk τ S,x with
 | some j,.agg cs=>match j.desc with
  | .struct fs=>nth fs.toList f (fun fd=>partK τ fd.type cs fd.offset k)
  | _=>False
 | _,_=>False
theorem field_spec (hτ:τ.Ok P) {R:CV→Value→Prop} {S:TypeId} {x:AV} {vx:Value} {f:Nat} {k:AV→Prop} (hk:fieldK τ S x f k) (hx:x.relR R vx) :
  ∃ r u,k r∧(∀ w',(Instr.field S vx f).run P w' = .ok u w')∧r.relR R u:=by
 unfold fieldK at hk
 split at hk
 ·rename_i j cs hj
  obtain ⟨vs,rfl,hv⟩:=hx
  split at hk
  ·rename_i fs hd
   obtain ⟨fd,hfd,hk⟩:=Jz _ _ _ hk
   obtain ⟨r,u,h1,h2,h3⟩:=part_spec hτ hk hv
   refine ⟨r,u,h1,fun w'=>?_,h3⟩
   have hu:=Gi hτ hj w'
   rw [hd] at hu
   have hget:fs[f]?=some fd:=by rw [← Array.getElem?_toList];exact hfd
   unfold Instr.field
   simp only [Sem.run_bind,hu,Result.andThen_ok,hget,asAgg,Sem.run_pure,h2]
  ·exact hk.elim
 ·exact hk.elim
def indexK (τ:TE) (T:TypeId) (x ix:AV) (k:AV→Prop):Prop:=
 match lk τ T,x,ix with
 | some j,.agg cs,.one (.d (.int _) i)=>match j.desc with
  | .array n e=>match lk τ e with
   | some ie=>ixC n i (splitL n 0 i (fun j=>partK τ e cs (j*ie.size) k))
   | none=>False
  | _=>False
 | some j,.one (.d .str b),.one (.d (.int _) i)=>match j.desc with
  | .string=>ixC b.size i (k (.one (.d (.int .u8) (bt b i))))
  | _=>False
 | _,_,_=>False
theorem index_spec (hτ:τ.Ok P) {w:World} {im:Nat→Prop} {φ:Phi} {ln:Nat→Option Nat} {nx:Nat} {T:TypeId} {x ix:AV} {vx vi:Value} {k:AV→Prop} (hk:indexK τ T x ix k)
  (hx:x.relR (CV.rel w im φ ln nx) vx) (hi:ix.relR (CV.rel w im φ ln nx) vi) :
  ∃ r u,k r∧(∀ w',(Instr.index T vx vi).run P w' = .ok u w')∧r.relR (CV.rel w im φ ln nx) u:=by
 unfold indexK at hk
 split at hk
 ·rename_i j cs kk i hj
  have:=av_int hi
  subst this
  clear hi
  generalize hii:(i:Int)=i' at hk ⊢
  obtain ⟨vs,rfl,hv⟩:=hx
  split at hk
  ·rename_i n e hd
   split at hk
   ·rename_i ie hie
    obtain ⟨⟨h0,h1⟩,hk⟩:=hk
    have hk:=splitL_spec hk (by omega) (by omega)
    obtain ⟨r,u,k1,k2,k3⟩:=part_spec hτ hk hv
    refine ⟨r,u,k1,fun w'=>?_,k3⟩
    have hu:=Gi hτ hj w'
    rw [hd] at hu
    unfold Instr.index
    simp only [asIntOf,Sem.run_bind,Sem.run_pure,Result.andThen_ok,hu]
    rw [if_pos ⟨h0,h1⟩]
    simp only [Sem.run_bind,Jj hτ hie,Result.andThen_ok,k2]
   ·exact hk.elim
  ·exact hk.elim
 ·rename_i j b kk i hj
  have:=av_int hi
  subst this
  clear hi
  generalize hii:(i:Int)=i' at hk ⊢
  split at hk
  ·rename_i hd
   obtain ⟨⟨h0,h1⟩,hk⟩:=hk
   have hb:vx = .string b:=G7 (w:=w) (im:=im) (φ:=φ) (ln:=ln) (nx:=nx) hx
   subst hb
   refine ⟨_,.int .u8 (bt b i'),hk,fun w'=>?_,rfl⟩
   have hu:=Gi hτ hj w'
   rw [hd] at hu
   unfold Instr.index
   simp only [asIntOf,Sem.run_bind,Sem.run_pure,Result.andThen_ok,hu]
   have hlt:i'.toNat<b.size:=by omega
   simp only [if_pos h0]
   have:b[i'.toNat]?=some b[i'.toNat]:=by simp [hlt]
   simp only [this,Sem.run_pure,bt]
   congr 2
   have hlt2:i'.toNat<b.data.size:=hlt
   rw [List.getD,Array.getElem?_toList,Array.getElem?_eq_getElem hlt2]
   rfl
  ·exact hk.elim
 ·exact hk.elim
def lenK (τ:TE) (T:TypeId) (s:St) (x:CV) (k:CV→Prop):Prop:=
 match lk τ T with
 | some j=>match j.desc,x with
  | .string,.d .str b=>k (.d (.int .i64) (b.size:Int))
  | .slice _,.d (.sl _) xs=>k (.d (.int .i64) (List.length xs:Int))
  | .slice _,.osl id=>match s.at id with
   | some (.arr _ _ xs)=>k (.d (.int .i64) (List.length xs:Int))
   | some (.pub _ _ xs)=>k (.d (.int .i64) (List.length xs:Int))
   | _=>False
  | .slice _,.c (.slice none 0 0)=>k (.d (.int .i64) 0)
  | .slice _,.emp=>k (.d (.int .i64) 0)
  | _,_=>False
 | none=>False
theorem len_spec (hτ:τ.Ok P) (h:Sat G φ s a w) {T ty:TypeId} {x:CV} {vx:Value} {k:CV→Prop} (hk:lenK τ T s x k)
  (hx:CV.rel w (G.im s φ) φ s.ln s.nx x vx) :
  ∃ r u,k r∧(∀ w',(Builtin.len_ #[T] ty #[vx]).run P w' = .ok u w')∧CV.rel w (G.im s φ) φ s.ln s.nx r u:=by
 have main:∀ (j:TI) (e:TypeId),lk τ T=some j→j.desc = .slice e→∀ A n c (w':World),(Builtin.len_ #[T] ty #[.slice A n c]).run P w' = .ok (.int .i64 n) w':=by
  intro j e hj hd A n c w'
  have hu:=Gi hτ hj w'
  rw [hd] at hu
  simp [Builtin.len_,hu,goInt]
 unfold lenK at hk
 split at hk
 ·rename_i j hj
  split at hk
  ·rename_i hd
   rw [G7 hx]
   refine ⟨_,_,hk,fun w'=>?_,rfl⟩
   have hu:=Gi hτ hj w'
   rw [hd] at hu
   simp [Builtin.len_,hu,goInt]
  ·rename_i e _ xs hd
   obtain ⟨A,cap,rfl,_⟩:=K6 hx
   exact ⟨_,_,hk,fun w'=>main j e hj hd _ _ _ w',rfl⟩
  ·rename_i e id hd
   obtain ⟨x1,x2,x3⟩:=hx
   split at hk
   ·rename_i hat
    rcases x3 _ (J0 hat) with ⟨b,cap,_,rfl⟩ | ⟨_,h5,rfl⟩
    ·exact ⟨_,_,hk,fun w'=>main j e hj hd _ _ _ w',rfl⟩
    ·refine ⟨_,_,hk,fun w'=>main j e hj hd _ _ _ w',?_⟩
     rw [h5];rfl
   ·rename_i hat
    rcases x3 _ (Lr hat) with ⟨b,cap,_,rfl⟩ | ⟨_,h5,rfl⟩
    ·exact ⟨_,_,hk,fun w'=>main j e hj hd _ _ _ w',rfl⟩
    ·refine ⟨_,_,hk,fun w'=>main j e hj hd _ _ _ w',?_⟩
     rw [h5];rfl
   ·exact hk.elim
  ·rename_i e hd
   obtain ⟨rfl,_⟩:=hx
   exact ⟨_,_,hk,fun w'=>main j e hj hd _ _ _ w',rfl⟩
  ·rename_i e hd
   obtain ⟨A,rfl⟩:=hx
   exact ⟨_,_,hk,fun w'=>main j e hj hd _ _ _ w',rfl⟩
  ·exact hk.elim
 ·exact hk.elim
end
end Go.AM
