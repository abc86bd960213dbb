
import Derived.Test.YtokgamncgleelaaGreatAmJ
set_option linter.unusedVariables false
set_option linter.unusedSimpArgs false
namespace Go.AM
def zrep {α:Type}:Nat→List α→List α
 | 0,_=>[]
 | n+1,l=>l++zrep n l
theorem zrep_len {α:Type} (n:Nat) (l:List α):(zrep n l).length=n*l.length:=by
 induction n with
 | zero=>simp [zrep]
 | succ n ih=>simp [zrep,ih,Nat.add_mul,Nat.add_comm]
theorem zrep_get {α:Type} (n:Nat) (l:List α) (q:Nat) (h:q<n*l.length):(zrep n l)[q]?=l[q%l.length]?:=by
 induction n generalizing q with
 | zero=>simp at h
 | succ n ih=>
  simp only [zrep]
  by_cases hq:q<l.length
  ·rw [List.getElem?_append_left hq,Nat.mod_eq_of_lt hq]
  ·rw [List.getElem?_append_right (by omega),ih _ (by rw [Nat.add_mul] at h;omega)]
   congr 1
   exact (Nat.mod_eq_sub_mod (by omega)).symm
theorem zrep_all2 {α β:Type} {R:α→β→Prop} {xs:List α} {ys:List β} (h:All2 R xs ys):∀ n,All2 R (zrep n xs) (zrep n ys)
 | 0=>.nil
 | n+1=>h.append (zrep_all2 h n)
theorem mkCells_zrep (ie : TI) (m : Nat) (hz : ie.zero.cells.size = ie.size) : Kg ie m = ⟨zrep m ie.zero.cells.toList⟩ := by
  apply Array.ext'
  apply List.ext_getElem?
  intro q
  simp only [Kg]
  by_cases hq : q < m * ie.size
  · rw [zrep_get _ _ _ (by simpa [hz] using hq)]
    have hne : ¬ m * ie.size = 0 := by omega
    simp only [if_neg hne, Array.getElem?_toList, Array.getElem?_map]
    rw [show (Array.range (m * ie.size))[q]? = some q from by simp [hq]]
    have hpos : 0 < ie.zero.cells.size := by rw [hz]; rcases Nat.eq_zero_or_pos ie.size with h0 | h0; · rw [h0] at hne; simp at hne
                                             · exact h0
    have := Nat.mod_lt q hpos
    simp [this]
  · rw [List.getElem?_eq_none (by simp; omega), List.getElem?_eq_none (by rw [zrep_len]; simp [hz]; omega)]
def impL (s:St) (t:Ty):Nat→List CV→(List t.D→List Nat→Prop)→Prop
 | 0,_,K=>K [] []
 | n+1,cs,K=>imp s t cs (fun x r ids=>impL s t n r (fun xs ids'=>K (x::xs) (ids++ids')))
section
variable {P:Program} {τ:TE} {G:Ctx} {φ:Phi} {s:St} {a:Act} {w:World}
theorem impL_spec (h:Sat G φ s a w) (t:Ty):∀ (n:Nat) (cs:List CV) (vs:List Value) (K:List t.D→List Nat→Prop),impL s t n cs K→All2 (CV.rel w (G.im s φ) φ s.ln s.nx) cs vs→
  ∃ xs ids,K xs ids∧xs.length=n∧Outs s ids∧n*t.n≤vs.length∧
   ∀ im',(∀ b,G.im s φ b→im' b)→(∀ id ∈ ids,∀ b cap,φ id=some (b,cap)→im' b)→∀ i (hi:i<xs.length),t.rel w im' xs[i] ((vs.drop (i*t.n)).take t.n)
 | 0,cs,vs,K,hk,hv=>⟨[],[],hk,rfl,fun _ h=>by simp at h,by simp,fun _ _ _ i hi=>by simp at hi⟩
 | n+1,cs,vs,K,hk,hv=>by
  obtain ⟨x,r,ids,v1,v2,k1,rfl,k2,k3,k4,k5⟩:=imp_spec h t cs _ vs hk hv
  obtain ⟨xs,ids',j1,j2,j3,j3',j4⟩:=impL_spec h t n r v2 _ k1 k3
  refine ⟨x::xs,ids++ids',j1,by simp [j2],?_,by rw [List.length_append,k2,Nat.add_mul];omega,fun im' hi hids i hlt=>?_⟩
  ·intro id hid
   rcases List.mem_append.1 hid with hid | hid
   ·exact k4 id hid
   ·exact j3 id hid
  ·cases i with
   | zero=>
    simp only [Nat.zero_mul,List.drop_zero,List.getElem_cons_zero]
    rw [← k2,List.take_left]
    exact k5 im' hi (fun id hid=>hids id (by simp [hid]))
   | succ i=>
    simp only [List.getElem_cons_succ]
    have:(v1++v2).drop ((i+1)*t.n)=v2.drop (i*t.n):=by
     rw [Nat.add_mul,Nat.one_mul,Nat.add_comm,← k2,List.drop_length_add_append]
    rw [this]
    exact j4 im' hi (fun id hid=>hids id (by simp [hid])) i (by simpa using hlt)
def seqPl (sz:Nat):Nat→Nat→List (Nat×Nat)
 | _,0=>[]
 | i,n+1=>(i*sz,sz)::seqPl sz (i+1) n
theorem seqPl_get (sz:Nat):∀ (n i j:Nat) (p:Nat×Nat),(seqPl sz i n)[j]?=some p→p=((i+j)*sz,sz)
 | 0,_,_,_,h=>by simp [seqPl] at h
 | n+1,i,0,p,h=>by simp [seqPl] at h;rw [← h];simp
 | n+1,i,j+1,p,h=>by
  have:=seqPl_get sz n (i+1) j p (by simpa [seqPl] using h)
  rw [this,show i+1+j=i+(j+1) by omega]
def litK (τ:TE) (T:TypeId) (s:St) (len:Nat) (parts:List (Nat×Operand)) (k:AV→St→List Nat→Prop):Prop:=
 match lk τ T with
 | some i=>match i.desc with
  | .slice e=>match lk τ e with
   | some ie=>match ie.ty,Nat.ble (len*ie.size) 16777216,Nat.ble len 16777216 with
    | some t,true,true=>evsK s parts (fun ps=>fillK (seqPl ie.size 0 len) (zrep len (ie.zero.cells.toList.map Lj)) ps (fun cs=>impL s t len cs (fun xs ids=>pubK ids s (fun s1=>
      s1.use fun e0 h n=>k (.one (.osl n)) ⟨e0,(n,some (.arr e t xs))::h,n+1⟩ []))))
    | _,_,_=>False
   | none=>False
  | _=>False
 | none=>False
theorem Eff.of_pub {G:Ctx} {s s1:St} {φ:Phi} {w:World} (hn:s1.nx=s.nx) (hx:Ext G s s1 φ φ w w):Eff G s s1 φ φ w w []:=⟨hx.kept,(fun _ h=>nomatch h),by omega,fun _ _=>rfl,Nat.le_refl _,fun _ _ _=>rfl⟩
theorem lit_spec (hτ:τ.Ok P) (h:Sat G φ s a w) {T:TypeId} {len:Nat} {parts:Array (Nat×Operand)} {k:AV→St→List Nat→Prop} (hk:litK τ T s len parts.toList k) :
  ∃ u w',(Instr.buildSlice T len (parts.map fun (i,x)=>(i,a.eval x))).run P w = .ok u w'∧Done G φ s a w k u w':=by
 unfold litK at hk
 simp only [St.use_eq,Ls] at hk
 split at hk
 ·rename_i i hi
  split at hk
  ·rename_i e hd
   split at hk
   ·rename_i ie hie
    split at hk
    ·rename_i t ht hbig hlenb
     have hbig:=Nat.le_of_ble_eq_true hbig
     have hlenb:=Nat.le_of_ble_eq_true hlenb
     obtain ⟨hn,hz⟩:=(hτ e ie hie).ty t ht
     have hzs:ie.zero.cells.size=ie.size:=by rw [← Array.length_toList,hz,zv_len,hn]
     obtain ⟨ps,h5,h6⟩:=evs_spec h _ _ hk
     obtain ⟨cs',vs',h7,h8,h9,h9'⟩:=fill_spec (fun _ _=>CV.oneCell) (seqPl ie.size 0 len) (fun i=>some (i*ie.size,ie.size)) (fun i p hp=>by rw [seqPl_get _ _ _ _ _ hp];simp) ps _ _ (zrep len ie.zero.cells.toList) _ h6
      (zrep_all2 (Jr (hτ e ie hie).oc) len) h5
     obtain ⟨xs,ids,j1,j2,j3,j3',j4⟩:=impL_spec h t len cs' vs' _ h7 h9
     obtain ⟨s1,m1,m2,m3,m4,m5,m6,m7,_⟩:=J8 ids _ h j1
     have hlen:vs'.length=len*t.n:=by
      rw [← h9.len,h9',zrep_len,List.length_map,Array.length_toList,hzs,hn]
     have hrel:=j4 (G.im s1 φ) m5 (fun id hid b cap hb=>m6 id hid b cap hb (j3 id hid))
     have hsat:=m2.new_arr e t xs len ⟨vs'⟩ (by omega) (by rw [maxLen_eq];omega) (by simpa using hlen) (fun i hi=>by
      refine ⟨_,hrel i hi,Ty.rel_len t _ _ (hrel i hi),fun j hj=>?_⟩
      have hl:=Ty.rel_len t _ _ (hrel i hi)
      rw [hl] at hj
      simp only [List.getElem_take,List.getElem_drop]
      have hlt:i*t.n+j<vs'.length:=by
       have:(i+1)*t.n≤len*t.n:=Nat.mul_le_mul_right _ (by omega)
       rw [Nat.add_mul] at this;omega
      simp [hlt])
     have hosl:=osl_new s1 φ e t xs w.heap.size len (w.alloc (.cells ⟨vs'⟩ e)) (G.im (s1.grown none (.arr e t xs)) (φ.set s1.nx (some (w.heap.size,len))))
     rw [j2] at hosl
     refine ⟨.slice (some ⟨w.heap.size,0,none⟩) len len,w.alloc (.cells ⟨vs'⟩ e),?_,_,_,_,_,m1,hsat,hosl,(Eff.of_pub m4 m7).trans (eff_alloc m2 _ _ _) (fun _ h=>by simp at h),by rw [J3,m3]⟩
     have hu:=Gi hτ hi w
     rw [hd] at hu
     have hs:=Jj (P:=P) hτ hie w
     have hzr:=zero_run (P:=P) hτ hie w
     have hzz:ie.zero.cells=⟨ie.zero.cells.toList⟩:=rfl
     have hmk:=mkCells_zrep ie len hzs
     rw [← hmk] at h8
     unfold Instr.buildSlice
     simp only [Sem.run_bind,hu,Result.andThen_ok,hs]
     rw [if_neg (by omega)]
     by_cases hz0:len*ie.size=0
     ·simp [hz0,Kg] at h8 ⊢
      simp [h8,newRow]
     ·simp [hz0,Kg] at h8 ⊢
      simp [hzr,h8,newRow]
    ·exact hk.elim
   ·exact hk.elim
  ·exact hk.elim
 ·exact hk.elim
def storeK (τ:TE) (T:TypeId) (s:St) (x:CV) (v:AV) (k:St→List Nat→Prop):Prop:=
 match lk τ T with
 | some i=>match v.cells,Nat.beq v.cells.length i.size with
  | y::ys,true=>match x with
   | .ptr id off=>match s.at id with
    | some (.cells cs)=>sts cs off (y::ys) (fun cs'=>s.use fun e h n=>k ⟨e,(id,some (.cells cs'))::h,n⟩ [id])
    | _=>False
   | .ep id sz i off=>match s.at id with
    | some (.arr e t xs)=>match Nat.beq sz t.n with
     | true=>sts (Jc t (rd t.z xs i)) off (y::ys) (fun cs'=>imp s t cs' (fun x' r ids=>match memb id ids with
      | false=>pubK ids s (fun s1=>s1.use fun e0 h n=>k ⟨e0,(id,some (.arr e t (xs.set i.toNat x')))::h,n⟩ [id])
      | true=>False))
     | false=>False
    | _=>False
   | _=>False
  | _,_=>False
 | none=>False
theorem sts_off {α:Type}:∀ (xs:List α) (n:Nat) (y:α) (ys:List α) (k:List α→Prop),sts xs n (y::ys) k→n≤xs.length
 | [],_,_,_,_,h=>by simp [sts] at h
 | _::_,0,_,_,_,_=>Nat.zero_le _
 | _::xs,n+1,y,ys,k,h=>by
  have:=sts_off xs n y ys _ (by simpa [sts] using h)
  simpa using this
theorem setRow_row {w:World} {b:Nat} {c:Array Value} {T:TypeId} (hb:w.heap[b]?=some (.cells c T (0,0))) (c':Array Value) :
  (w.setRow b c').heap[b]?=some (.cells c' T (0,0))∧(w.setRow b c').heap.size=w.heap.size∧∀ k,k≠b→(w.setRow b c').heap[k]?=w.heap[k]?:=
 ⟨setRow_heap w b c c' T (0,0) hb,by simp [World.setRow],fun k hk=>setRow_other w b k c' hk⟩
theorem store_run (hτ:τ.Ok P) {T:TypeId} {i:TI} (hi:lk τ T=some i) {b o:Nat} {c:Array Value} {T':TypeId} {v:Value} (hv:v.cells.size=i.size) (h1:∀ u ∈ v.cells.toList,u.oneCell'=true)
  (w:World) (hb:w.heap[b]?=some (.cells c T' (0,0))) (hle:o+v.cells.toList.length≤c.size) :
  (Instr.storeAt T (.pointer (some ⟨b,o,none⟩)) v).run P w = .ok () (w.setRow b (c.toList.take o++v.cells.toList++c.toList.drop (o+v.cells.toList.length)).toArray):=by
 have hst:=run_storeCells_at P b o T' v.cells.toList 0 c w hb (by simpa using hle) h1
 simp only [Nat.add_zero] at hst
 simp only [Instr.storeAt,Instr.sureAddr,storeVar,Sem.run_bind,Sem.run_pure,Result.andThen_ok,Jj hτ hi]
 rw [if_neg (by simp [hv])]
 exact hst
theorem put_get {α:Type} (l us:List α) (o k:Nat) (h:o+us.length≤l.length) :
  (l.take o++us++l.drop (o+us.length))[k]?=if o≤k∧k<o+us.length then us[k-o]? else l[k]?:=by
 by_cases h1:k<o
 ·rw [if_neg (by omega),List.getElem?_append_left (by simp;omega),List.getElem?_append_left (by simp;omega),List.getElem?_take,if_pos h1]
 ·by_cases h2:k<o+us.length
  ·rw [if_pos ⟨by omega,h2⟩,List.getElem?_append_left (by simp;omega),List.getElem?_append_right (by simp;omega)]
   simp [Nat.min_eq_left (show o≤l.length by omega)]
  ·rw [if_neg (by omega),List.getElem?_append_right (by simp;omega),List.getElem?_drop]
   congr 1
   simp [Nat.min_eq_left (show o≤l.length by omega)]
   omega
def DoneU (G:Ctx) (φ:Phi) (s:St) (a:Act) (w:World) (k:St→List Nat→Prop) (w':World):Prop:=
 ∃ s' φ' m,k s' m∧Sat G φ' s' a w'∧Eff G s s' φ φ' w w' m∧s'.env=s.env
theorem eff_turn (h:Sat G φ s a w) {id:Nat} {ch ch':Chunk} {w':World} (hat:s.at id=some ch) (hlive:ch.live=true) (hlen:ch'.len=ch.len) (hsize:w'.heap.size=w.heap.size)
  (hblock:∀ b,(∀ cap,φ id≠some (b,cap))→w'.heap[b]?=w.heap[b]?):Eff G s { s with heap:=(id,some ch')::s.heap } φ φ w w' [id]:=by
 refine ⟨fun b hb hlt=>?_,fun i hi=>by simp at hi;subst hi;exact ⟨ch,hat,hlive⟩,Nat.le_refl _,fun _ _=>rfl,Nat.le_of_eq hsize.symm,fun b _ hk=>hblock b (fun cap=>hk id (by simp) cap)⟩
 obtain ⟨hb1,hb2⟩:=hb
 refine ⟨⟨hb1,fun hl=>?_⟩,hblock b (fun cap e=>hb2 ⟨id,ch,cap,hat,hlive,e⟩)⟩
 obtain ⟨i,c,cap,k1,k2,k3⟩:=hl
 rw [Jf] at k1
 by_cases hid:id=i
 ·subst hid;exact hb2 ⟨id,ch,cap,hat,hlive,k3⟩
 ·rw [if_neg hid] at k1;exact hb2 ⟨i,c,cap,k1,k2,k3⟩
theorem store_spec (hτ:τ.Ok P) (h:Sat G φ s a w) {T:TypeId} {x:CV} {v:AV} {vx vv:Value} {k:St→List Nat→Prop} (hk:storeK τ T s x v k)
  (hx:CV.rel w (G.im s φ) φ s.ln s.nx x vx) (hv:v.relR (CV.rel w (G.im s φ) φ s.ln s.nx) vv) :
  ∃ w',(Instr.storeAt T vx vv).run P w = .ok () w'∧DoneU G φ s a w k w':=by
 unfold storeK at hk
 simp only [St.use_eq] at hk
 split at hk
 ·rename_i i hi
  split at hk
  ·rename_i y ys hc hl
   have hl:=Nat.eq_of_beq_eq_true hl
   have ht:∀ l,v≠.tup l:=fun l e=>by subst e;simp [AV.cells] at hc
   obtain ⟨c1,c2⟩:=AV.cells_rel (fun _ _=>CV.oneCell) hv ht
   rw [hc] at c1 hl
   have hsz:vv.cells.size=i.size:=by rw [← hl,c1.len];simp
   have hlen:vv.cells.toList.length=(y::ys).length:=c1.len.symm
   split at hk
   ·split at hk
    ·rename_i id off _ cs hat
     obtain ⟨_,b,cap,x2,rfl⟩:=hx
     obtain ⟨b',cap',q1,vs,T',q2,q3⟩:=(h.heap id _ hat).2
     rw [x2] at q1;cases q1
     have hoff:=sts_off _ _ _ _ _ hk
     obtain ⟨l1,l2⟩:=sts_spec _ _ _ _ hoff hk
     have hle:off+vv.cells.toList.length≤(⟨vs⟩:Array Value).size:=by rw [hlen];simpa [q3.len] using l1
     have hrun:=store_run hτ hi hsz c2 w q2 hle
     obtain ⟨r1,r2,r3⟩:=setRow_row q2 ((vs.take off++vv.cells.toList++vs.drop (off+vv.cells.toList.length)).toArray)
     refine ⟨_,hrun,_,φ,_,l2,h.turn hat rfl rfl rfl rfl rfl r2 (fun k hk=>r3 k (fun e=>hk cap (by rw [e];exact x2))) (fun hxt=>?_),eff_turn h hat rfl (by simp [Chunk.len]) r2 (fun k hk=>r3 k (fun e=>hk cap (by rw [e];exact x2))),rfl⟩
     exact ⟨b,cap,x2,_,T',r1,(All2.put q3 c1 off).mono (fun _ _=>CV.rel_ext hxt)⟩
    ·exact hk.elim
   ·split at hk
    ·rename_i id sz j off _ e t xs hat
     split at hk
     ·rename_i hszn
      have hszn:=Nat.eq_of_beq_eq_true hszn
      subst hszn
      obtain ⟨_,⟨b,cap,x2,rfl⟩,x3⟩:=hx
      have hj:=x3 _ (J0 hat)
      rcases (h.heap id _ hat).2 with ⟨q1,_⟩ | ⟨b',cap',q1,q2,q3,c,q4,q5,q6⟩
      ·rw [x2] at q1;cases q1
      ·rw [x2] at q1;cases q1
       obtain ⟨ds,k1,k2,k3⟩:=q6 j.toNat hj
       rw [rd_get _ _ _ hj] at hk
       have hex:=Gz (w:=w) (im:=G.im s φ) (φ:=φ) (ln:=s.ln) (nx:=s.nx) t _ ds k1
       have hoff:=sts_off _ _ _ _ _ hk
       obtain ⟨l1,l2⟩:=sts_spec _ _ _ _ hoff hk
       obtain ⟨x',r,ids,v1,v2,m1,m2,m3,m4,m5,m6⟩:=imp_spec h t _ _ _ l2 (All2.put hex c1 off)
       split at m1
       ·rename_i hmem
        have hmem:=Ka hmem
        obtain ⟨s1,n1,n2,n3,n4,n5,n6,n7,n8,_⟩:=J8 ids _ h m1
        have hat1:s1.at id=some (.arr e t xs):=by rw [n8 id hmem];exact hat
        have hexl:(Jc t xs[j.toNat]).length=t.n:=by rw [hex.len,k2]
        have hle0:j.toNat*t.n+t.n≤xs.length*t.n:=by
         have:(j.toNat+1)*t.n≤xs.length*t.n:=Nat.mul_le_mul_right _ hj
         rw [Nat.add_mul] at this;omega
        have hcap:xs.length*t.n≤cap*t.n:=Nat.mul_le_mul_right _ q2
        have hle:j.toNat*t.n+off+vv.cells.toList.length≤c.size:=by rw [hlen,q5];rw [hexl] at l1;omega
        have hrun:=store_run hτ hi hsz c2 w q4 hle
        obtain ⟨r1,r2,r3⟩:=setRow_row q4 ((c.toList.take (j.toNat*t.n+off)++vv.cells.toList++c.toList.drop (j.toNat*t.n+off+vv.cells.toList.length)).toArray)
        refine ⟨_,hrun,_,φ,_,n1,n2.turn hat1 rfl (by simp [Chunk.len]) rfl rfl rfl r2 (fun k hk=>r3 k (fun e=>hk cap (by rw [e];exact x2))) (fun hxt=>?_),
         (Eff.of_pub n4 n7).trans (m:=[id]) (eff_turn n2 hat1 rfl (by simp [Chunk.len]) r2 (fun k hk=>r3 k (fun e=>hk cap (by rw [e];exact x2)))) (fun i hi=>by simp at hi;subst hi;exact ⟨h.at_lt hat,_,hat,rfl⟩),n3⟩
        refine .inr ⟨b,cap,x2,by simpa using q2,q3,_,r1,?_,fun q hq=>?_⟩
        ·simp only [List.size_toArray,List.length_append,List.length_take,List.length_drop,Array.length_toList];omega
        ·rw [List.length_set] at hq
         have hput:=fun p=>put_get c.toList vv.cells.toList (j.toNat*t.n+off) p (by simpa using hle)
         by_cases hqj:j.toNat=q
         ·subst hqj
          have hv1:v1=ds.take off++vv.cells.toList++ds.drop (off+vv.cells.toList.length):=by
           have e1:(ds.take off++vv.cells.toList++ds.drop (off+vv.cells.toList.length)).length=t.n:=by
            simp only [List.length_append,List.length_take,List.length_drop,k2,hlen];rw [hexl] at l1;omega
           rw [m2,List.length_append,m3] at e1
           rw [m2,List.eq_nil_of_length_eq_zero (by omega:v2.length=0),List.append_nil]
          have hr1:=m6 (G.im s1 φ) n5 (fun id hid b cap hb=>n6 id hid b cap hb (m5 id hid))
          refine ⟨v1,by rw [List.getElem_set_self];exact Ty.rel_mono hxt.kept t _ _ hr1,m3,fun p hp=>?_⟩
          rw [m3] at hp
          rw [List.getElem?_toArray,hput]
          have hg:=put_get ds vv.cells.toList off p (by rw [k2,hlen];rw [hexl] at l1;exact l1)
          rw [← hv1,List.getElem?_eq_getElem (by omega)] at hg
          rw [hg]
          by_cases hin:off≤p∧p<off+vv.cells.toList.length
          ·rw [if_pos hin,if_pos (by omega)]
           congr 1;omega
          ·rw [if_neg hin,if_neg (by omega),Array.getElem?_toList,k3 p (by omega)]
           simp [k2,hp]
         ·obtain ⟨ds',u1,u2,u3⟩:=q6 q hq
          refine ⟨ds',by rw [List.getElem_set_ne hqj];exact Ty.rel_mono hxt.kept t _ _ (Ty.rel_mono n7.kept t _ _ u1),u2,fun p hp=>?_⟩
          rw [List.getElem?_toArray,hput,if_neg,Array.getElem?_toList,u3 p hp]
          rw [u2] at hp
          rw [hlen]
          rw [hexl] at l1
          intro ⟨w1,w2⟩
          rcases Nat.lt_or_gt_of_ne hqj with hlt | hlt
          ·have:(j.toNat+1)*t.n≤q*t.n:=Nat.mul_le_mul_right _ hlt
           rw [Nat.add_mul] at this;omega
          ·have:(q+1)*t.n≤j.toNat*t.n:=Nat.mul_le_mul_right _ hlt
           rw [Nat.add_mul] at this;omega
       ·exact m1.elim
     ·exact hk.elim
    ·exact hk.elim
   ·exact hk.elim
  ·exact hk.elim
 ·exact hk.elim
end
end Go.AM
