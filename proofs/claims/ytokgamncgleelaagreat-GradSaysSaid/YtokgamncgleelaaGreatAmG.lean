
import Derived.Test.YtokgamncgleelaaGreatAmF
import Derived.IntWalk
set_option linter.unusedVariables false
set_option linter.unusedSimpArgs false
namespace Go.AM
section
variable {P:Program} {τ:TE} {G:Ctx} {φ:Phi} {s:St} {a:Act} {w:World}
theorem maxLen_eq:maxLen=9223372036854775807:=by decide
theorem Sat.new_arr (h:Sat G φ s a w) (e:TypeId) (t:Ty) (xs:List t.D) (cap:Nat) (c:Array Value) (hcap:xs.length≤cap) (hm:cap≤maxLen) (hc:c.size=cap*t.n)
  (hel:∀ i (hi:i<xs.length),∃ ds,t.rel w (G.im s φ) xs[i] ds∧ds.length=t.n∧∀ j (hj:j<ds.length),c[i*t.n+j]?=some ds[j]) :
  Sat G (φ.set s.nx (some (w.heap.size,cap))) (s.grown none (.arr e t xs)) a (w.alloc (.cells c e)):=by
 have hg:=grow_alloc φ s w G (.cells c e) cap
 have hx:=h.grown_ext (ch:=.arr e t xs) (fun _ e=>by cases e) hg
 refine h.grow (fun _ e=>by cases e) hg (fun _ _ _ e=>by cases e) (.inr ⟨w.heap.size,cap,Phi.set_same _ _ _,hcap,hm,c,heap_alloc_new w _,hc,fun i hi=>?_⟩)
 obtain ⟨ds,k1,k2⟩:=hel i hi
 exact ⟨ds,Ty.rel_mono hx.kept t _ ds k1,k2⟩
theorem osl_new (s:St) (φ:Phi) (e:TypeId) (t:Ty) (xs:List t.D) (b cap:Nat) (w:World) (im:Nat→Prop) :
  CV.rel w im (φ.set s.nx (some (b,cap))) (s.grown none (.arr e t xs)).ln (s.grown none (.arr e t xs)).nx (.osl s.nx) (.slice (some ⟨b,0,none⟩) xs.length cap):=by
 refine ⟨by rw [G1];omega,rfl,fun n hn=>.inl ⟨b,cap,Phi.set_same _ _ _,?_⟩⟩
 simp only [St.ln,Jl,↓reduceIte,Chunk.len,Option.some.injEq] at hn
 rw [hn]
def mkC (s:St) (e:TypeId) (t:Ty) (bytes:Nat) (n c:Int) (k:AV→St→List Nat→Prop):Prop:=
 (0≤n∧n≤c∧c.toNat*bytes≤140737488355328)∧s.use fun e0 h m=>k (.one (.osl m)) ⟨e0,(m,some (.arr e t (List.replicate n.toNat t.z)))::h,m+1⟩ []
def mkK (τ:TE) (T:TypeId) (s:St) (ln cp:AV) (k:AV→St→List Nat→Prop):Prop:=
 match lk τ T with
 | some i=>match i.desc with
  | .slice e=>match lk τ e with
   | some ie=>match ie.ty with
    | some t=>match ln,cp with
     | .one (.d (.int _) n),.one (.d (.int _) c)=>match Nat.ble 1 ie.bytes with
      | true=>mkC s e t ie.bytes n c k
      | false=>False
     | _,_=>False
    | none=>False
   | none=>False
  | _=>False
 | none=>False
theorem zeros_get (t:Ty) (z:Array Value) (hz:z.toList=t.zv) (hn:t.zv.length=t.n) (n i j:Nat) (hi:i<n) (hj:j<t.n) :
  ((Array.range (n*t.n)).map (fun q=>z[q%z.size]!))[i*t.n+j]?=t.zv[j]?:=by
 have hzs:z.size=t.n:=by rw [← hn,← hz];simp
 have hlt:i*t.n+j<n*t.n:=by
  have:(i+1)*t.n≤n*t.n:=Nat.mul_le_mul_right _ hi
  rw [Nat.add_mul] at this;omega
 simp only [Array.getElem?_map]
 rw [show (Array.range (n*t.n))[i*t.n+j]?=some (i*t.n+j) from by simp [hlt]]
 simp only [Option.map_some,hzs]
 rw [Nat.mul_comm,Nat.mul_add_mod,Nat.mod_eq_of_lt hj,← hz]
 simp [hzs,hj]
theorem zv_len (t:Ty):t.zv.length=t.n:=by
 have:=Ty.rel_len (w:=default) (im:=fun _=>True) t t.z t.zv (Ty.rel_zv t)
 exact this
def Kg (ie:TI) (m:Nat):Array Value:=
 (Array.range (m*ie.size)).map (fun q=>(if m*ie.size=0 then #[] else ie.zero.cells)[q%(if m*ie.size=0 then (#[]:Array Value) else ie.zero.cells).size]!)
theorem mk_run (hτ:τ.Ok P) {T e:TypeId} {i ie:TI} (hi:lk τ T=some i) (hd:i.desc = .slice e) (hie:lk τ e=some ie) (hb:1≤ie.bytes) {kn kc:IntKind} {n c:Int}
  (h0:0≤n) (h1:n≤c) (h2:c.toNat*ie.bytes≤140737488355328) (w:World) :
  (Instr.makeSlice T (.int kn n) (.int kc c)).run P w = .ok (.slice (some ⟨w.heap.size,0,none⟩) n.toNat c.toNat) (w.alloc (.cells (Kg ie c.toNat) e))∧c≤140737488355328:=by
 have hcc:c≤140737488355328:=by
  have:c.toNat*1≤c.toNat*ie.bytes:=Nat.mul_le_mul_left _ hb
  omega
 refine ⟨?_,hcc⟩
 have hmul:(ie.bytes:Int)*c≤140737488355328:=by
  have e1:((c.toNat*ie.bytes:Nat):Int)=(ie.bytes:Int)*c:=by
   rw [Int.natCast_mul,Int.toNat_of_nonneg (by omega),Int.mul_comm]
  rw [← e1];omega
 have wn:IntKind.i64.wrap n=n:=IntWalk.i64_in n (by omega)
 have wc:IntKind.i64.wrap c=c:=IntWalk.i64_in c (by omega)
 obtain ⟨jj,p1,p2,p3,p4⟩:=(hτ e ie hie).info
 have hby:∀ w,(typeInfo e).run P w = .ok jj w:=fun w=>by simp [typeInfo,p1]
 have t1:(decide (c<0)||decide ((ie.bytes:Int)*c>2 ^ 48))=false:=by
  simp only [Bool.or_eq_false_iff,decide_eq_false_iff_not];omega
 have t2:(decide (n<0)||decide (n>c))=false:=by
  simp only [Bool.or_eq_false_iff,decide_eq_false_iff_not];omega
 have hu:=Gi hτ hi w
 rw [hd] at hu
 have hsz:=fun w=>Jj (P:=P) hτ hie w
 have hzr:=fun w=>zero_run (P:=P) hτ hie w
 unfold Instr.makeSlice
 simp only [Sem.run_bind,hu,Result.andThen_ok]
 simp only [asInt,asIntOf,Sem.run_bind,Sem.run_pure,Result.andThen_ok,hby,p3,wn,wc,t1,Bool.false_or,t2,Bool.false_eq_true,if_false,run_askRoom,hsz]
 by_cases hz0:c.toNat*ie.size=0
 ·simp [Kg,hz0,newRow]
 ·simp [Kg,hz0,hzr,newRow]
theorem mk_spec (hτ:τ.Ok P) (h:Sat G φ s a w) {T:TypeId} {ln cp:AV} {vl vc:Value} {k:AV→St→List Nat→Prop} (hk:mkK τ T s ln cp k)
  (hl:ln.relR (CV.rel w (G.im s φ) φ s.ln s.nx) vl) (hc:cp.relR (CV.rel w (G.im s φ) φ s.ln s.nx) vc) :
  ∃ u w',(Instr.makeSlice T vl vc).run P w = .ok u w'∧Done G φ s a w k u w':=by
 unfold mkK at hk
 split at hk
 ·rename_i i hi
  split at hk
  ·rename_i e hd
   split at hk
   ·rename_i ie hie
    split at hk
    ·rename_i t ht
     split at hk
     ·rename_i kn n kc c
      split at hk
      ·rename_i hb
       have hb:1≤ie.bytes:=Nat.le_of_ble_eq_true hb
       have el:=av_int hl
       have ec:=av_int hc
       subst el;subst ec
       clear hl hc
       generalize hn':(n:Int)=n' at hk ⊢
       generalize hc':(c:Int)=c' at hk ⊢
       simp only [mkC,St.use_eq,Ls] at hk
       obtain ⟨⟨h0,h1,h2⟩,hk⟩:=hk
       obtain ⟨hn,hz⟩:=(hτ e ie hie).ty t ht
       obtain ⟨hrun,hcc⟩:=mk_run hτ hi hd hie hb (kn:=kn) (kc:=kc) h0 h1 h2 w
       have hzlen:(List.replicate n'.toNat t.z).length=n'.toNat:=by simp
       refine ⟨_,_,hrun,_,_,_,_,hk,h.new_arr e t _ c'.toNat _ (by rw [hzlen];omega) (by rw [maxLen_eq];omega) (by simp [Kg,hn]) ?_,?_,eff_alloc h _ _ _,J3 _ _ _⟩
       ·intro i hi'
        refine ⟨t.zv,by rw [List.getElem_replicate];exact Ty.rel_zv t,zv_len t,fun j hj=>?_⟩
        rw [zv_len] at hj
        rw [hzlen] at hi'
        have hne:¬c'.toNat*ie.size=0:=by
         rw [← hn]
         intro e0
         rcases Nat.mul_eq_zero.1 e0 with e0 | e0 <;> omega
        simp only [Kg,if_neg hne]
        rw [← hn,zeros_get t _ hz (zv_len t) _ i j (by omega) hj]
        exact List.getElem?_eq_getElem _
       ·have:=osl_new s φ e t (List.replicate n'.toNat t.z) w.heap.size c'.toNat (w.alloc (.cells (Kg ie c'.toNat) e)) (G.im (s.grown none (.arr e t (List.replicate n'.toNat t.z))) (φ.set s.nx (some (w.heap.size,c'.toNat))))
        rw [hzlen] at this
        exact this
      ·exact hk.elim
     ·exact hk.elim
    ·exact hk.elim
   ·exact hk.elim
  ·exact hk.elim
 ·exact hk.elim
end
end Go.AM
