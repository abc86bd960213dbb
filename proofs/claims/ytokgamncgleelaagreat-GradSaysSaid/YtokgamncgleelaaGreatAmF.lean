
import Derived.Test.YtokgamncgleelaaGreatAmE
import Derived.Laws.Tables
set_option linter.unusedVariables false
set_option linter.unusedSimpArgs false
namespace Go.AM
section
variable {P:Program} {τ:TE} {G:Ctx} {φ:Phi} {s:St} {a:Act} {w:World}
def fillK (pl:List (Nat×Nat)):List CV→List (Nat×AV)→(List CV→Prop)→Prop
 | cs,[],k=>k cs
 | cs,(i,v)::r,k=>nth pl i (fun p=>match Nat.beq v.cells.length p.2 with
  | true=>match v.cells with
   | []=>False
   | y::ys=>sts cs p.1 (y::ys) (fun cs'=>fillK pl cs' r k)
  | false=>False)
theorem foldl_put:∀ (ys:List Value) (j off:Nat) (cs:Array Value),off+j+ys.length≤cs.size→
  ((ys.zipIdx j).foldl (fun (cs:Array Value) (p:Value×Nat)=>cs.setIfInBounds (off+p.2) p.1) cs).toList=cs.toList.take (off+j)++ys++cs.toList.drop (off+j+ys.length)
 | [],j,off,cs,h=>by simp
 | y::ys,j,off,cs,h=>by
  simp only [List.length_cons] at h
  simp only [List.zipIdx_cons,List.foldl_cons]
  rw [foldl_put ys (j+1) off _ (by simp;omega)]
  have e:=list_seg_step cs.toList (off+j) y ys (by simp;omega)
  simpa [Array.toList_setIfInBounds,Nat.add_assoc] using e
theorem All2.put {R:CV→Value→Prop} {cs:List CV} {vs:List Value} {ys:List CV} {us:List Value} (h:All2 R cs vs) (hy:All2 R ys us) (n:Nat) :
  All2 R (cs.take n++ys++cs.drop (n+ys.length)) (vs.take n++us++vs.drop (n+us.length)):=by
 rw [← hy.len]
 exact ((h.take n).append hy).append (h.drop _)
theorem fill_spec {R:CV→Value→Prop} (hR:∀ x v,R x v→v.oneCell'=true) (pl:List (Nat×Nat)) (place:Nat→Option (Nat×Nat)) (hpl:∀ i p,pl[i]?=some p→place i=some p) :
  ∀ (ps:List (Nat×AV)) (us:List (Nat×Value)) (cs:List CV) (vs:List Value) (k:List CV→Prop),All2 (fun p u=>p.1=u.1∧p.2.relR R u.2) ps us→All2 R cs vs→fillK pl cs ps k→
   ∃ cs' vs',k cs'∧Instr.fill place ⟨vs⟩ us=some ⟨vs'⟩∧All2 R cs' vs'∧cs'.length=cs.length
 | [],_,cs,vs,k,.nil,h,hk=>⟨cs,vs,hk,rfl,h,rfl⟩
 | (i,v)::ps,(_,u)::us,cs,vs,k,.cons ⟨h1,h2⟩ h3,h,hk=>by
  dsimp only at h1 h2
  subst h1
  obtain ⟨p,hp,hk⟩:=Jz _ _ _ hk
  split at hk
  ·rename_i hl
   have hl:=Nat.eq_of_beq_eq_true hl
   split at hk
   ·exact hk.elim
   ·rename_i y ys hc
    rw [← hc] at hk
    have ht:∀ l,v≠.tup l:=fun l e=>by subst e;simp [AV.cells] at hc
    obtain ⟨c1,c2⟩:=AV.cells_rel hR h2 ht
    by_cases hn:p.1≤cs.length
    ·obtain ⟨k1,k2⟩:=sts_spec _ _ _ _ hn hk
     have hul:u.cells.size=p.2:=by rw [← hl,c1.len];simp
     have hput:=All2.put h c1 p.1
     obtain ⟨cs',vs',j1,j2,j3,j4⟩:=fill_spec hR pl place hpl ps us _ _ k h3 hput k2
     refine ⟨cs',vs',j1,?_,j3,?_⟩
     ·simp only [Instr.fill,hpl _ _ hp]
      rw [if_neg]
      ·rw [← j2]
       congr 1
       apply Array.ext'
       have:=foldl_put u.cells.toList 0 p.1 ⟨vs⟩ (by simp only [Array.length_toList,hul,← hl,Nat.add_zero];simpa [h.len] using k1)
       simp only [Nat.add_zero] at this
       rw [← this]
       rw [← Array.foldl_toList,Array.toList_zipIdx]
      ·simp only [ne_eq,Bool.or_eq_true,decide_eq_true_eq,not_or,Decidable.not_not,gt_iff_lt,Nat.not_lt]
       refine ⟨hul,?_⟩
       rw [hul,← hl]
       simpa [h.len] using k1
     ·rw [j4]
      simp only [List.length_append,List.length_take,List.length_drop]
      omega
    ·rw [hc] at hk
     exfalso
     have aux:∀ (xs:List CV) (n:Nat) (y:CV) (ys:List CV) (k:List CV→Prop),¬n≤xs.length→¬sts xs n (y::ys) k:=by
      intro xs
      induction xs with
      | nil=>intro n y ys k _ h;simp [sts] at h
      | cons x xs ih=>
       intro n y ys k hn h
       cases n with
       | zero=>exact hn (Nat.zero_le _)
       | succ n=>exact ih n y ys _ (by simpa using hn) (by simpa [sts] using h)
     exact aux _ _ _ _ _ hn hk
  ·exact hk.elim
def plK (τ:TE):List Field→(List (Nat×Nat)→Prop)→Prop
 | [],k=>k []
 | f::r,k=>match lk τ f.type with
  | some i=>plK τ r (fun l=>k ((f.offset,i.size)::l))
  | none=>False
theorem pl_spec (hτ:τ.Ok P):∀ (fs:List Field) (k:List (Nat×Nat)→Prop),plK τ fs k→∃ l,k l∧fs.mapM (fun f=>(P.info? f.type).map fun i=>(f.offset,i.size))=some l
 | [],k,h=>⟨[],h,rfl⟩
 | f::r,k,h=>by
  simp only [plK] at h
  split at h
  ·rename_i i hi
   obtain ⟨l,h1,h2⟩:=pl_spec hτ r _ h
   obtain ⟨j,h3,h4,_⟩:=(hτ _ i hi).info
   exact ⟨_,h1,by simp [h3,h4,h2]⟩
  ·exact h.elim
def evsK (s:St):List (Nat×Operand)→(List (Nat×AV)→Prop)→Prop
 | [],k=>k []
 | (i,x)::r,k=>match ev s x with
  | some v=>evsK s r (fun l=>k ((i,v)::l))
  | none=>False
theorem evs_spec (h:Sat G φ s a w):∀ (l:List (Nat×Operand)) (k:List (Nat×AV)→Prop),evsK s l k→
  ∃ ps,k ps∧All2 (fun p (u:Nat×Value)=>p.1=u.1∧p.2.relR (CV.rel w (G.im s φ) φ s.ln s.nx) u.2) ps (l.map fun (i,x)=>(i,a.eval x))
 | [],k,hk=>⟨[],hk,.nil⟩
 | (i,x)::r,k,hk=>by
  simp only [evsK] at hk
  split at hk
  ·rename_i v hv
   obtain ⟨ps,h1,h2⟩:=evs_spec h r _ hk
   exact ⟨_,h1,.cons ⟨rfl,Lv h hv⟩ h2⟩
  ·exact hk.elim
def seqA (sz:Nat):Nat→Nat→List (Nat×Nat)
 | _,0=>[]
 | i,n+1=>(i*sz,sz)::seqA sz (i+1) n
theorem seqA_get (sz:Nat):∀ (n i j:Nat) (p:Nat×Nat),(seqA sz i n)[j]?=some p→p=((i+j)*sz,sz)
 | 0,i,j,p,h=>by simp [seqA] at h
 | n+1,i,0,p,h=>by simp [seqA] at h;simp [← h]
 | n+1,i,j+1,p,h=>by
  have:=seqA_get sz n (i+1) j p (by simpa [seqA] using h)
  rw [this,show i+1+j=i+(j+1) by omega]
def buildK (τ:TE) (t:TypeId) (s:St) (parts:List (Nat×Operand)) (k:AV→Prop):Prop:=
 match lk τ t with
 | some i=>match i.desc with
  | .struct fs=>plK τ fs.toList (fun pl=>tk i.zero.cells.toList.length (i.zero.cells.toList.map Lj) (fun zs=>evsK s parts (fun ps=>fillK pl zs ps (fun cs=>k (.agg cs)))))
  | .array n e=>match lk τ e with
   | some ie=>tk i.zero.cells.toList.length (i.zero.cells.toList.map Lj) (fun zs=>evsK s parts (fun ps=>fillK (seqA ie.size 0 n) zs ps (fun cs=>k (.agg cs))))
   | none=>False
  | _=>False
 | none=>False
theorem build_spec (hτ:τ.Ok P) (h:Sat G φ s a w) {t:TypeId} {parts:Array (Nat×Operand)} {k:AV→Prop} (hk:buildK τ t s parts.toList k) :
  ∃ r u,k r∧(∀ w',(Instr.build t (parts.map fun (i,x)=>(i,a.eval x))).run P w' = .ok u w')∧r.relR (CV.rel w (G.im s φ) φ s.ln s.nx) u:=by
 unfold buildK at hk
 split at hk
 ·rename_i i hi
  split at hk
  ·rename_i fs hd
   obtain ⟨pl,h1,h2⟩:=pl_spec hτ _ _ hk
   obtain ⟨h3,h4⟩:=tk_spec _ _ _ h1
   rw [List.take_of_length_le (by simp)] at h4
   obtain ⟨ps,h5,h6⟩:=evs_spec h _ _ h4
   obtain ⟨cs',vs',h7,h8,h9,_⟩:=fill_spec (fun _ _=>CV.oneCell) pl (fun x=>pl[x]?) (fun _ _ h=>h) ps _ _ i.zero.cells.toList _ h6 (Jr (hτ t i hi).oc) h5
   refine ⟨_,.agg ⟨vs'⟩,h7,fun w'=>?_,⟨vs',rfl,h9⟩⟩
   have hz:i.zero.cells=⟨i.zero.cells.toList⟩:=rfl
   rw [← hz] at h8
   have hpl:=run_places (P:=P) w' _ _ h2
   simp only [Instr.build,Sem.run_bind,zero_run hτ hi,Result.andThen_ok,Gi hτ hi,hd]
   simp [Array.mapM_eq_mapM_toList,hpl,h8]
  ·rename_i n e hd
   split at hk
   ·rename_i ie hie
    obtain ⟨h3,h4⟩:=tk_spec _ _ _ hk
    rw [List.take_of_length_le (by simp)] at h4
    obtain ⟨ps,h5,h6⟩:=evs_spec h _ _ h4
    obtain ⟨cs',vs',h7,h8,h9,_⟩:=fill_spec (fun _ _=>CV.oneCell) (seqA ie.size 0 n) (fun i=>some (i*ie.size,ie.size)) (fun j p hj=>by rw [seqA_get _ _ _ _ _ hj];simp) ps _ _ i.zero.cells.toList _ h6 (Jr (hτ t i hi).oc) h5
    refine ⟨_,.agg ⟨vs'⟩,h7,fun w'=>?_,⟨vs',rfl,h9⟩⟩
    have hz:i.zero.cells=⟨i.zero.cells.toList⟩:=rfl
    rw [← hz] at h8
    simp only [Instr.build,Sem.run_bind,zero_run hτ hi,Result.andThen_ok,Gi hτ hi,hd,Jj hτ hie]
    simp [h8]
   ·exact hk.elim
  ·exact hk.elim
 ·exact hk.elim
end
end Go.AM
