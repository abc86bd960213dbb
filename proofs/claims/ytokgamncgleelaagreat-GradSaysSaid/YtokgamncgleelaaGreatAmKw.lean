
import Derived.Test.YtokgamncgleelaaGreatAmK
import Derived.Laws.CopyRow
import Derived.Laws.IdiomCopy
set_option linter.unusedVariables false
set_option linter.unusedSimpArgs false
namespace Go.AM
section
variable {P:Program} {τ:TE} {G:Ctx} {φ:Phi} {s:St} {a:Act} {w:World}
def winC (id n:Nat) (lo hi:Option Int) (k:CV→Prop):Prop:=
 match lo,hi with
 | none,none=>False
 | some l,none=>(0≤l∧l≤(n:Int))∧k (.wn id l n)
 | none,some h=>(0≤h∧h≤(n:Int))∧k (.wn id 0 h)
 | some l,some h=>(0≤l∧l≤h∧h≤(n:Int))∧k (.wn id l h)
def winK (τ:TE) (e:TypeId) (s:St) (id:Nat) (lo hi:Option Operand) (k:CV→Prop):Prop:=
 match lk τ e with
 | some ie=>match Nat.beq ie.size 1,s.at id with
  | true,some (.arr _ _ xs)=>evI s lo (fun l=>evI s hi (fun n=>winC id xs.length l n k))
  | _,_=>False
 | none=>False
theorem osl_wn (h:Sat G φ s a w) {id:Nat} {e:TypeId} {t:Ty} {xs:List t.D} {v:Value} (hat:s.at id=some (.arr e t xs)) (hv:CV.rel w (G.im s φ) φ s.ln s.nx (.osl id) v) :
  ∃ A cap,v = .slice A xs.length cap∧xs.length≤cap∧(xs.length=0∨∃ b c,φ id=some (b,c)∧A=some ⟨b,0,none⟩):=by
 obtain ⟨⟨A,cap,rfl,hc,_⟩,h2⟩:=h.osl_list hat hv
 refine ⟨A,cap,rfl,hc,?_⟩
 rcases h2 with ⟨_,rfl,_⟩ | ⟨b,c,h3,h4⟩
 ·exact .inl rfl
 ·simp only [Value.slice.injEq] at h4
  exact .inr ⟨b,c,h3,h4.1⟩
theorem win_rel (h:Sat G φ s a w) {id:Nat} {e:TypeId} {t:Ty} {xs:List t.D} (hat:s.at id=some (.arr e t xs)) {A:Option Addr} {cap:Nat} (hc:xs.length≤cap)
  (hA:xs.length=0∨∃ b c,φ id=some (b,c)∧A=some ⟨b,0,none⟩) (l n:Int) (h0:0≤l) (h1:l≤n) (h2:n≤(xs.length:Int)) (q:Nat) :
  CV.rel w (G.im s φ) φ s.ln s.nx (.wn id l n) (.slice (if cap=l.toNat then A else A.map (·.add (l.toNat*1))) (n.toNat-l.toNat) q):=by
 refine ⟨h.at_lt hat,rfl,fun m hm=>?_⟩
 rw [J0 hat] at hm
 cases hm
 refine ⟨⟨h0,h1,h2⟩,_,q,rfl,fun hlt=>?_⟩
 rcases hA with h3 | ⟨b,c,h3,rfl⟩
 ·omega
 ·exact ⟨b,c,h3,by rw [if_neg (by omega)];simp [J5]⟩
theorem win_spec (hτ:τ.Ok P) (h:Sat G φ s a w) {T e:TypeId} {j:TI} (hj:lk τ T=some j) (hd:j.desc = .slice e) {id:Nat} {vx:Value} {lo hi:Option Operand} {k:CV→Prop} (hk:winK τ e s id lo hi k)
  (hx:CV.rel w (G.im s φ) φ s.ln s.nx (.osl id) vx) :
  ∃ r u,k r∧(∀ w',(Instr.sliceAt T vx (lo.map a.eval) (hi.map a.eval) none).run P w' = .ok u w')∧CV.rel w (G.im s φ) φ s.ln s.nx r u:=by
 unfold winK at hk
 split at hk
 ·rename_i ie hie
  split at hk
  ·rename_i e' t xs hsz hat
   have hsz:=Nat.eq_of_beq_eq_true hsz
   obtain ⟨A,cap,rfl,hc,hA⟩:=osl_wn h hat hx
   rcases Mb h hk with ⟨rfl,hk1⟩ | ⟨kl,l,hl,hk1⟩ <;> clear hk <;> rcases Mb h hk1 with ⟨rfl,hk⟩ | ⟨kh,n,hn',hk⟩ <;> clear hk1
   ·exact hk.elim
   ·obtain ⟨⟨h0,h1⟩,hk⟩:=hk
    rw [hn']
    refine ⟨_,_,hk,fun w'=>cut_run hτ hj hd hie A xs.length cap none (some (.int kh n)) 0 n.toNat w' (by simp [Instr.sliceBounds,run_sliceBound _ _ _ _ _ h0 (show n≤(cap:Int) by omega)]),?_⟩
    rw [hsz]
    exact win_rel h hat hc hA 0 n (Int.le_refl _) h0 h1 _
   ·obtain ⟨⟨h0,h1⟩,hk⟩:=hk
    rw [hl]
    refine ⟨_,_,hk,fun w'=>cut_run hτ hj hd hie A xs.length cap (some (.int kl l)) none l.toNat xs.length w' (by simp [Instr.sliceBounds,run_sliceBound _ _ _ _ _ h0 h1]),?_⟩
    rw [hsz]
    exact win_rel h hat hc hA l xs.length h0 h1 (Int.le_refl _) _
   ·obtain ⟨⟨h0,h1,h2⟩,hk⟩:=hk
    rw [hl,hn']
    have en:((n.toNat:Nat):Int)=n:=Int.toNat_of_nonneg (by omega)
    refine ⟨_,_,hk,fun w'=>cut_run hτ hj hd hie A xs.length cap (some (.int kl l)) (some (.int kh n)) l.toNat n.toNat w' (by simp [Instr.sliceBounds,run_sliceBound _ _ n cap _ (by omega) (by omega),run_sliceBound _ _ l n.toNat _ h0 (by omega)]),?_⟩
    rw [hsz]
    exact win_rel h hat hc hA l n h0 h1 h2 _
  ·exact hk.elim
 ·exact hk.elim
def shortK (τ:TE) (e:TypeId) (s:St) (id:Nat) (lo hi:Option Operand) (k:AV→St→List Nat→Prop):Prop:=
 match lk τ e with
 | some ie=>match s.at id,lo with
  | some (.arr e' t xs),none=>evI s hi (fun n=>match n with
   | some n=>(0≤n∧n≤(xs.length:Int))∧s.use fun e0 h m=>k (.one (.osl m)) ⟨e0,(m,some (.arr e' t (xs.take n.toNat)))::(id,none)::h,m+1⟩ [id]
   | none=>False)
  | _,_=>False
 | none=>False
theorem fold_gone (s:St) (id:Nat) (ch:Chunk):(⟨s.env,(s.nx,some ch)::(id,none)::s.heap,s.nx+1⟩:St)=s.grown (some id) ch:=rfl
theorem short_spec (hτ:τ.Ok P) (h:Sat G φ s a w) {T e:TypeId} {j:TI} (hj:lk τ T=some j) (hd:j.desc = .slice e) {id:Nat} {vx:Value} {lo hi:Option Operand} {k:AV→St→List Nat→Prop} (hk:shortK τ e s id lo hi k)
  (hx:CV.rel w (G.im s φ) φ s.ln s.nx (.osl id) vx) :
  ∃ u,(Instr.sliceAt T vx (lo.map a.eval) (hi.map a.eval) none).run P w = .ok u w∧Done G φ s a w k u w:=by
 unfold shortK at hk
 simp only [St.use_eq,fold_gone] at hk
 split at hk
 ·rename_i ie hie
  split at hk
  ·rename_i e' t xs hat
   obtain ⟨⟨A0,cap0,hv0,hc0,_⟩,hv⟩:=h.osl_list hat hx
   subst hv0
   rcases Mb h hk with ⟨rfl,hk⟩ | ⟨kh,n,hn',hk⟩
   ·exact hk.elim
   ·obtain ⟨⟨h0,h1⟩,hk⟩:=hk
    rw [hn']
    have hrun:=cut_run (P:=P) hτ hj hd hie A0 xs.length cap0 none (some (.int kh n)) 0 n.toNat w (by simp [Instr.sliceBounds,run_sliceBound _ _ _ _ _ h0 (show n≤(cap0:Int) by omega)])
    have hA:(if cap0=0 then A0 else A0.map (·.add (0*ie.size)))=A0:=by
     split
     ·rfl
     ·cases A0 with
      | none=>rfl
      | some x=>cases x;simp [Addr.add]
    rw [hA] at hrun
    have htl:(xs.take n.toNat).length=n.toNat:=by rw [List.length_take];omega
    have hg:Grow G φ s w w (some id) (φ id):=⟨rfl,rfl,rfl,Nat.le_refl _,fun _ _ _=>rfl,fun b c hp=>⟨(h.own id _ b c hat rfl hp).1,.inr ⟨id,c,rfl,hp⟩⟩⟩
    have hgo:∀ i,some id=some i→∃ c,s.at i=some c∧c.live=true:=fun i e1=>by cases e1;exact ⟨_,hat,rfl⟩
    have hx':=h.grown_ext (ch:=.arr e' t (xs.take n.toNat)) hgo hg
    have hln:(s.grown (some id) (.arr e' t (xs.take n.toNat))).ln s.nx=some n.toNat:=by simp only [St.ln,Jl,↓reduceIte,Chunk.len,htl]
    refine ⟨_,hrun,_,_,_,_,hk,h.grow hgo hg (fun i b c e1 hp=>by cases e1;exact (h.own id _ b c hat rfl hp).2) ?_,?_,⟨hx'.kept,fun i hi=>by simp at hi;subst hi;exact ⟨_,hat,rfl⟩,by rw [G1];omega,fun i hi=>Phi.set_lt φ _ hi,Nat.le_refl _,fun _ _ _=>rfl⟩,J3 _ _ _⟩
    ·rcases (h.heap id _ hat).2 with ⟨q1,rfl⟩ | ⟨b,cap,q1,q2,q3,c,q4,q5,q6⟩
     ·exact .inl ⟨(Phi.set_same _ _ _).trans q1,by simp⟩
     ·refine .inr ⟨b,cap,(Phi.set_same _ _ _).trans q1,by rw [htl];omega,q3,c,q4,q5,fun i hi=>?_⟩
      rw [htl] at hi
      obtain ⟨ds,k1,k2⟩:=q6 i (by omega)
      exact ⟨ds,by rw [List.getElem_take];exact Ty.rel_mono hx'.kept t _ ds k1,k2⟩
    ·refine ⟨by rw [G1];omega,rfl,fun m hm=>?_⟩
     rw [hln] at hm
     cases hm
     rw [Phi.set_same]
     rcases hv with ⟨q1,rfl,q2⟩ | ⟨b,c,q1,q2⟩
     ·simp only [Value.slice.injEq] at q2
      refine .inr ⟨q1,?_,?_⟩
      ·simp at h1;omega
      ·have:n.toNat=0:=by simp at h1;omega
       rw [this];simp [q2.1,q2.2.2]
     ·simp only [Value.slice.injEq] at q2
      exact .inl ⟨b,c,q1,by rw [q2.1,q2.2.2];rfl⟩
  ·exact hk.elim
 ·exact hk.elim
def over {α:Type} (xs:List α) (l:Int) (zs:List α):List α:=xs.take l.toNat++zs++xs.drop (l.toNat+zs.length)
def dstK (s:St) (x:CV) (k:Nat→Option Int→Int→Prop):Prop:=match x with
 | .osl id=>k id none 0
 | .wn id l h=>k id (some h) l
 | _=>False
def srcK (id:Nat) (t:Ty) (xs:List t.D) (y:CV) (k:List t.D→Prop):Prop:=match y with
 | .d (.sl t') ys=>Ty.eqK (.sl t) (.sl t') ys k
 | .wn id' l h=>match Nat.beq id id' with
  | true=>k ((xs.take h.toNat).drop l.toNat)
  | false=>False
 | _=>False
def endI (n:Nat):Option Int→Int
 | none=>(n:Int)
 | some h=>h
def copyC (s:St) (id:Nat) (e:TypeId) (t:Ty) (xs:List t.D) (l h:Int) (ys:List t.D) (k:AV→St→List Nat→Prop):Prop:=
 s.use fun e0 hp m=>k (.one (.d (.int .i64) ((ys.take (h.toNat-l.toNat)).length:Int))) ⟨e0,(id,some (.arr e t (over xs l (ys.take (h.toNat-l.toNat)))))::hp,m⟩ [id]
def copyK (τ:TE) (T T':TypeId) (s:St) (x y:CV) (k:AV→St→List Nat→Prop):Prop:=
 match lk τ T with
 | some i=>match i.desc with
  | .slice e=>match lk τ e with
   | some ie=>match Nat.beq ie.size 1 with
    | true=>dstK s x (fun id h l=>match s.at id with
     | some (.arr e' t xs)=>match Nat.beq t.n 1 with
      | true=>srcK id t xs y (fun ys=>copyC s id e' t xs l (endI xs.length h) ys k)
      | false=>False
     | _=>False)
    | false=>False
   | none=>False
  | _=>False
 | none=>False
theorem over_len {α:Type} (xs zs:List α) (l:Int) (h:l.toNat+zs.length≤xs.length):(over xs l zs).length=xs.length:=by
 simp [over];omega
theorem over_get {α:Type} (xs zs:List α) (l:Int) (h:l.toNat+zs.length≤xs.length) (k:Nat) :
  (over xs l zs)[k]?=if l.toNat≤k∧k<l.toNat+zs.length then zs[k-l.toNat]? else xs[k]?:=put_get xs zs l.toNat k h
theorem copyC_spec (hτ:τ.Ok P) (h:Sat G φ s a w) {T T' ty e:TypeId} {i ie:TI} (hi:lk τ T=some i) (hd:i.desc = .slice e) (hie:lk τ e=some ie) (hsz:ie.size=1)
  {id:Nat} {e':TypeId} {t:Ty} {xs:List t.D} (hat:s.at id=some (.arr e' t xs)) (htn:t.n=1) {l hh:Int} (h0:0≤l) (h1:l≤hh) (h2:hh≤(xs.length:Int))
  {A A':Option Addr} {q q':Nat} (hA:l<hh→∃ b cap,φ id=some (b,cap)∧A=some ⟨b,l.toNat,none⟩)
  {ys:List t.D} (hy:ys≠[]→∃ b o,A'=some ⟨b,o,none⟩∧Row w b o t.n (fun x ds=>t.rel w (G.im s φ) x ds) ys)
  {k:AV→St→List Nat→Prop} (hk:copyC s id e' t xs l hh ys k) :
  ∃ u w',(Builtin.copy_ #[T,T'] ty #[.slice A (hh.toNat-l.toNat) q,.slice A' ys.length q']).run P w = .ok u w'∧Done G φ s a w k u w':=by
 unfold copyC at hk
 simp only [St.use_eq] at hk
 have hu:P.underlying T=some (.slice e):=by rw [(hτ T i hi).und,hd]
 obtain ⟨ji,p1,p2,p3,p4⟩:=(hτ e ie hie).info
 have hs:(P.info? e).map (·.size)=some 1:=by rw [p1];simp [p2,hsz]
 generalize hzs:ys.take (hh.toNat-l.toNat)=zs at hk
 have hzl:zs.length=Nat.min ys.length (hh.toNat-l.toNat):=by rw [← hzs,List.length_take,Nat.min_comm]
 have hmin:Nat.min ys.length (hh.toNat-l.toNat)≤hh.toNat-l.toNat:=Nat.min_le_right _ _
 have hmin':Nat.min ys.length (hh.toNat-l.toNat)≤ys.length:=Nat.min_le_left _ _
 have hfit:l.toNat+zs.length≤xs.length:=by omega
 by_cases hz:zs=[]
 ·subst hz
  have hov:over xs l ([]:List t.D)=xs:=by simp [over]
  rw [hov] at hk
  have hrun:=run_copy_none (P:=P) w T T' ty e A A' (hh.toNat-l.toNat) q ys.length q' hu hs hzl.symm
  refine ⟨_,w,hrun,_,_,φ,_,hk,h.turn hat rfl rfl rfl rfl rfl rfl (fun _ _=>rfl) (fun hxt=>?_),rfl,eff_turn h hat rfl rfl rfl (fun _ _=>rfl),rfl⟩
  exact (h.heap id _ hat).2.ext hxt (h.at_lt hat) (fun _ _ _ _=>rfl)
 ·have hzp:0<zs.length:=List.length_pos_iff.2 hz
  obtain ⟨b,cap,hb,rfl⟩:=hA (by omega)
  have hys:ys≠[]:=fun e1=>by subst e1;simp at hzs;exact hz hzs
  obtain ⟨b',o',rfl,hr⟩:=hy hys
  obtain ⟨news,n1,n2,n3,n4⟩:=row_cells hr
  rw [htn,Nat.mul_one] at n1
  rcases (h.heap id _ hat).2 with ⟨q1,_⟩ | ⟨b2,cap2,q1,q2,q3,c,q4,q5,q6⟩
  ·rw [hb] at q1;cases q1
  ·rw [hb] at q1;cases q1
   rw [htn,Nat.mul_one] at q5
   have hcl:(news.take zs.length).length=zs.length:=by rw [List.length_take];omega
   have hrun:=run_copy_row (P:=P) w T T' ty e b l.toNat (hh.toNat-l.toNat) q ⟨b',o',none⟩ ys.length q' c e' (news.take zs.length) hu hs q4 (by rw [hcl,hzl])
    (fun j u hj=>by
     rw [List.getElem?_take] at hj
     split at hj
     ·rw [J5];exact n2 j u hj
     ·cases hj) (by rw [hcl];omega) (fun u hu=>n3 u (List.mem_of_mem_take hu))
   obtain ⟨r1,r2,r3⟩:=setRow_row q4 ((c.toList.take l.toNat++news.take zs.length++c.toList.drop (l.toNat+(news.take zs.length).length)).toArray)
   have hother:∀ k,(∀ cap,φ id≠some (k,cap))→(w.setRow b ((c.toList.take l.toNat++news.take zs.length++c.toList.drop (l.toNat+(news.take zs.length).length)).toArray)).heap[k]?=w.heap[k]?:=fun k hk=>r3 k (fun e=>hk cap (by rw [e];exact hb))
   refine ⟨_,_,hrun,_,_,φ,_,hk,h.turn hat rfl (by simp only [Chunk.len,over_len _ _ _ hfit]) rfl rfl rfl r2 hother (fun hxt=>?_),by rw [hcl];exact rfl,eff_turn h hat rfl (by simp only [Chunk.len,over_len _ _ _ hfit]) r2 hother,rfl⟩
   refine .inr ⟨b,cap,hb,by rw [over_len _ _ _ hfit];exact q2,q3,_,r1,?_,fun j hj=>?_⟩
   ·simp only [List.size_toArray,List.length_append,List.length_take,List.length_drop,Array.length_toList,htn];omega
   ·rw [over_len _ _ _ hfit] at hj
    have hg:=over_get xs zs l hfit j
    rw [List.getElem?_eq_getElem (by rw [over_len _ _ _ hfit];exact hj)] at hg
    have hct:c.toList.length=c.size:=Array.length_toList
    have hput:=put_get c.toList (news.take zs.length) l.toNat j (by rw [hcl];omega)
    rw [hcl] at hput
    by_cases hin:l.toNat≤j∧j<l.toNat+zs.length
    ·rw [if_pos hin] at hg hput
     have hjl:j-l.toNat<zs.length:=by omega
     have hjy:j-l.toNat<ys.length:=by omega
     have hzy:zs[j-l.toNat]?=some ys[j-l.toNat]:=by
      rw [← hzs,List.getElem?_take,if_pos (by omega),List.getElem?_eq_getElem hjy]
     rw [hzy] at hg
     simp only [Option.some.injEq] at hg
     have hrel:=n4 (j-l.toNat) hjy
     rw [htn,Nat.mul_one] at hrel
     refine ⟨_,by rw [hg];exact Ty.rel_mono hxt.kept t _ _ hrel,by rw [List.length_take,List.length_drop,htn];omega,fun p hp=>?_⟩
     have hp0:p=0:=by rw [List.length_take] at hp;omega
     subst hp0
     rw [htn,Nat.mul_one,Nat.add_zero,List.getElem?_toArray,hcl,hput,List.getElem?_take,if_pos (by omega)]
     simp [List.getElem?_eq_getElem (show j-l.toNat<news.length by omega)]
    ·rw [if_neg hin] at hg hput
     rw [List.getElem?_eq_getElem hj] at hg
     simp only [Option.some.injEq] at hg
     obtain ⟨ds,u1,u2,u3⟩:=q6 j hj
     refine ⟨ds,by rw [hg];exact Ty.rel_mono hxt.kept t _ _ u1,u2,fun p hp=>?_⟩
     have hp0:p=0:=by omega
     subst hp0
     rw [← u3 0 hp,htn,Nat.mul_one,Nat.add_zero,List.getElem?_toArray,hcl,hput,Array.getElem?_toList]
theorem copy_spec (hτ:τ.Ok P) (h:Sat G φ s a w) {T T' ty:TypeId} {x y:CV} {vx vy:Value} {k:AV→St→List Nat→Prop} (hk:copyK τ T T' s x y k)
  (hx:CV.rel w (G.im s φ) φ s.ln s.nx x vx) (hy:CV.rel w (G.im s φ) φ s.ln s.nx y vy) :
  ∃ u w',(Builtin.copy_ #[T,T'] ty #[vx,vy]).run P w = .ok u w'∧Done G φ s a w k u w':=by
 unfold copyK at hk
 split at hk
 ·rename_i i hi
  split at hk
  ·rename_i e hd
   split at hk
   ·rename_i ie hie
    split at hk
    ·rename_i hsz
     have hsz:=Nat.eq_of_beq_eq_true hsz
     have src:∀ {id:Nat} {e':TypeId} {t:Ty} {xs:List t.D} {k':List t.D→Prop},s.at id=some (.arr e' t xs)→t.n=1→srcK id t xs y k'→
       ∃ ys A' q',k' ys∧vy = .slice A' ys.length q'∧(ys≠[]→∃ b o,A'=some ⟨b,o,none⟩∧Row w b o t.n (fun x ds=>t.rel w (G.im s φ) x ds) ys):=by
      intro id e' t xs k' hat htn hs
      unfold srcK at hs
      split at hs
      ·rename_i t' ys
       obtain ⟨ys',hk',e1,e2⟩:=Ty.eqK_spec hs
       cases e1
       cases e2
       obtain ⟨A,cap,rfl,_,hr⟩:=K6 hy
       exact ⟨_,A,cap,hk',rfl,hr⟩
      ·rename_i id' l hh
       split at hs
       ·rename_i hid
        have hid:=Nat.eq_of_beq_eq_true hid
        subst hid
        obtain ⟨_,_,h3⟩:=hy
        obtain ⟨⟨g0,g1,g2⟩,A,q,rfl,hA⟩:=h3 _ (J0 hat)
        have hlen:((xs.take hh.toNat).drop l.toNat).length=hh.toNat-l.toNat:=by rw [List.length_drop,List.length_take];omega
        refine ⟨_,A,q,hs,by rw [hlen],fun hne=>?_⟩
        have hlt:l<hh:=by
         rcases Int.lt_or_le l hh with h' | h'
         ·exact h'
         ·exact absurd (List.eq_nil_of_length_eq_zero (by rw [hlen];omega)) hne
        obtain ⟨b,cap,hb,rfl⟩:=hA hlt
        refine ⟨b,_,rfl,?_⟩
        rcases (h.heap id _ hat).2 with ⟨q1,_⟩ | ⟨b2,cap2,q1,q2,q3,c,q4,q5,q6⟩
        ·rw [hb] at q1;cases q1
        ·rw [hb] at q1;cases q1
         refine ⟨c,e',(0,0),q4,fun i hi=>?_⟩
         rw [hlen] at hi
         obtain ⟨ds,u1,u2,u3⟩:=q6 (l.toNat+i) (by omega)
         refine ⟨ds,by simp only [List.getElem_drop,List.getElem_take];exact u1,u2,fun j hj=>?_⟩
         rw [← u3 j hj,htn]
         congr 1;omega
       ·exact hs.elim
      ·exact hs.elim
     unfold dstK at hk
     split at hk
     ·rename_i id
      split at hk
      ·rename_i e' t xs hat
       split at hk
       ·rename_i htn
        have htn:=Nat.eq_of_beq_eq_true htn
        obtain ⟨ys,A',q',hk',rfl,hys⟩:=src hat htn hk
        obtain ⟨A,cap,rfl,hc,hA⟩:=osl_wn h hat hx
        have:=copyC_spec hτ h hi hd hie hsz hat htn (A:=A) (q:=cap) (A':=A') (q':=q') (T':=T') (ty:=ty) (Int.le_refl 0) (by simp [endI]) (by simp [endI]) (fun hlt=>by
         rcases hA with h0 | ⟨b,c,h0,h1⟩
         ·simp [endI] at hlt;omega
         ·exact ⟨b,c,h0,h1⟩) hys hk'
        simpa [endI] using this
       ·exact hk.elim
      ·exact hk.elim
     ·rename_i id l hh
      split at hk
      ·rename_i e' t xs hat
       split at hk
       ·rename_i htn
        have htn:=Nat.eq_of_beq_eq_true htn
        obtain ⟨ys,A',q',hk',rfl,hys⟩:=src hat htn hk
        obtain ⟨_,_,h3⟩:=hx
        obtain ⟨⟨g0,g1,g2⟩,A,q,rfl,hA⟩:=h3 _ (J0 hat)
        exact copyC_spec hτ h hi hd hie hsz hat htn g0 g1 g2 hA hys hk'
       ·exact hk.elim
      ·exact hk.elim
     ·exact hk.elim
    ·exact hk.elim
   ·exact hk.elim
  ·exact hk.elim
 ·exact hk.elim
end
end Go.AM
