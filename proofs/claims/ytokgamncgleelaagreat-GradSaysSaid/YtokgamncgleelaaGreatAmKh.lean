
import Derived.Test.YtokgamncgleelaaGreatAmK
set_option linter.unusedVariables false
set_option linter.unusedSimpArgs false
namespace Go.AM
section
variable {P:Program} {τ:TE} {G:Ctx} {φ:Phi} {s:St} {a:Act} {w:World}
theorem viewK_any {t:Ty} {x:CV} {K:List t.D→List Nat→Prop} (h:viewK s t x K):∃ xs ids,K xs ids:=by
 unfold viewK at h
 split at h
 ·obtain ⟨y,h1,_⟩:=Ty.eqK_spec h;exact ⟨_,_,h1⟩
 ·split at h
  ·obtain ⟨y,h1,_⟩:=Ty.eqK_spec h;exact ⟨_,_,h1⟩
  ·obtain ⟨y,h1,_⟩:=Ty.eqK_spec h;exact ⟨_,_,h1⟩
  ·exact h.elim
 all_goals first | exact ⟨_,_,h⟩ | exact h.elim
theorem imp_any:∀ (t:Ty) (cs:List CV) (K:t.D→List CV→List Nat→Prop),imp s t cs K→∃ x r ids,K x r ids
 | .int k,[],K,h=>by simp [imp] at h
 | .int k,x::r,K,h=>by
  simp only [imp] at h
  split at h
  ·split at h
   ·exact ⟨_,_,_,h⟩
   ·exact h.elim
  ·exact h.elim
 | .bool,[],K,h=>by simp [imp] at h
 | .bool,x::r,K,h=>by
  simp only [imp] at h
  split at h
  ·exact ⟨_,_,_,h⟩
  ·exact h.elim
 | .str,[],K,h=>by simp [imp] at h
 | .str,x::r,K,h=>by
  simp only [imp] at h
  split at h
  ·exact ⟨_,_,_,h⟩
  ·exact h.elim
 | .u,cs,K,h=>by
  cases cs <;> exact ⟨_,_,_,h⟩
 | .sl t,[],K,h=>by simp [imp] at h
 | .sl t,x::r,K,h=>by
  simp only [imp] at h
  obtain ⟨xs,ids,h1⟩:=viewK_any h
  exact ⟨_,_,_,h1⟩
 | .p a b,cs,K,h=>by
  simp only [imp] at h
  obtain ⟨x,r,ids,h1⟩:=imp_any a cs _ h
  obtain ⟨y,r',ids',h2⟩:=imp_any b r _ h1
  exact ⟨_,_,_,h2⟩
theorem ext_turn (h:Sat G φ s a w) {id:Nat} {ch ch':Chunk} {w':World} (hat:s.at id=some ch) (hlive:ch.live=true) (hlen:ch'.len=ch.len)
  (hblock:∀ b,(∀ cap,φ id≠some (b,cap))→w'.heap[b]?=w.heap[b]?):Ext G s { s with heap:=(id,some ch')::s.heap } φ φ w w':=by
 refine ⟨Nat.le_refl _,fun _ _=>rfl,fun i hi n hn=>?_,fun b hb hlt=>?_⟩
 ·simp only [St.ln,Jf] at hn ⊢
  by_cases hid:id=i
  ·subst hid;simp only [↓reduceIte,hlen] at hn;rw [hat];exact hn
  ·rw [if_neg hid] at hn;exact hn
 ·obtain ⟨hb1,hb2⟩:=hb
  refine ⟨⟨hb1,fun hl=>?_⟩,?_⟩
  ·obtain ⟨i,c,cap,k1,k2,k3⟩:=hl
   rw [Jf] at k1
   by_cases hid:id=i
   ·subst hid;exact hb2 ⟨id,ch,cap,hat,hlive,k3⟩
   ·rw [if_neg hid] at k1;exact hb2 ⟨i,c,cap,k1,k2,k3⟩
  ·exact hblock b (fun cap e=>hb2 ⟨id,ch,cap,hat,hlive,e⟩)
theorem Ext.trans {s' s'':St} {φ' φ'':Phi} {w' w'':World} (h1:Ext G s s' φ φ' w w') (h2:Ext G s' s'' φ' φ'' w' w'') (hsz:w.heap.size≤w'.heap.size:=by exact Nat.le_refl _):Ext G s s'' φ φ'' w w'':=
 ⟨Nat.le_trans h1.nx h2.nx,fun i hi=>(h2.phi i (Nat.lt_of_lt_of_le hi h1.nx)).trans (h1.phi i hi),fun i hi n hn=>h1.ln i hi n (h2.ln i (Nat.lt_of_lt_of_le hi h1.nx) n hn),fun b hb hlt=>by
  obtain ⟨k1,k2⟩:=h1.kept b hb hlt
  obtain ⟨k3,k4⟩:=h2.kept b k1 (Nat.lt_of_lt_of_le hlt hsz)
  exact ⟨k3,k4.trans k2⟩⟩
theorem All2.get_right {α β:Type} {R:α→β→Prop}:∀ {xs:List α} {ys:List β},All2 R xs ys→∀ (i:Nat) (y:β),ys[i]?=some y→∃ x,xs[i]?=some x∧R x y
 | _,_,.nil,i,y,h=>by simp at h
 | _,_,.cons (x:=x) h1 _,0,y,h=>by simp at h;subst h;exact ⟨x,rfl,h1⟩
 | _,_,.cons _ h2,i+1,y,h=>by simpa using All2.get_right h2 i y (by simpa using h)
def setK:List Nat→St→(St→Prop)→Prop
 | [],s,k=>k s
 | id::r,s,k=>match s.at id with
  | some (.hol e t xs i cs)=>imp s t cs (fun x' rest ids=>match memb id ids with
   | false=>rest=[]∧pubK ids s (fun s1=>s1.use fun e0 h n=>setK r ⟨e0,(id,some (.arr e t (xs.set i.toNat x')))::h,n⟩ k)
   | true=>False)
  | _=>False
theorem Sat.set1 (h:Sat G φ s a w) {id:Nat} {e:TypeId} {t:Ty} {xs:List t.D} {i:Int} {cs:List CV} (hat:s.at id=some (.hol e t xs i cs)) {k:St→Prop}
  (hk:imp s t cs (fun x' rest ids=>match memb id ids with | false=>rest=[]∧pubK ids s (fun s1=>k { s1 with heap:=(id,some (.arr e t (xs.set i.toNat x')))::s1.heap }) | true=>False)) :
  ∃ s',k s'∧Sat G φ s' a w∧s'.env=s.env∧s'.nx=s.nx∧Eff G s s' φ φ w w [id]∧Ext G s s' φ φ w w:=by
 have hln:s.ln id=some xs.length:=by simp [St.ln,hat,Chunk.len]
 have main:∀ x' ids,id ∉ ids→pubK ids s (fun s1=>k { s1 with heap:=(id,some (.arr e t (xs.set i.toNat x')))::s1.heap })→
   (∀ (s1:St),(∀ b,G.im s φ b→G.im s1 φ b)→(∀ id ∈ ids,∀ b cap,φ id=some (b,cap)→(∃ e t xs,s.at id=some (.arr e t xs))→G.im s1 φ b)→
    ∀ b cap c,φ id=some (b,cap)→w.heap[b]?=some (.cells c e (0,0))→i.toNat<xs.length→∃ ds,t.rel w (G.im s1 φ) x' ds∧ds.length=t.n∧∀ j (hj:j<ds.length),c[i.toNat*t.n+j]?=some ds[j])→
   ∃ s',k s'∧Sat G φ s' a w∧s'.env=s.env∧s'.nx=s.nx∧Eff G s s' φ φ w w [id]∧Ext G s s' φ φ w w:=by
  intro x' ids hmem hp hel
  obtain ⟨s1,n1,n2,n3,n4,n5,n6,n7,n8,_⟩:=J8 ids _ h hp
  have hat1:s1.at id=some (.hol e t xs i cs):=by rw [n8 id hmem];exact hat
  refine ⟨_,n1,n2.turn hat1 rfl (by simp [Chunk.len]) rfl rfl rfl rfl (fun _ _=>rfl) (fun hxt=>?_),n3,n4,
   (Eff.of_pub n4 n7).trans (m:=[id]) (eff_turn n2 hat1 rfl (by simp [Chunk.len]) rfl (fun _ _=>rfl)) (fun j hj=>by simp at hj;subst hj;exact ⟨h.at_lt hat,_,hat,rfl⟩),n7.trans (ext_turn n2 hat1 rfl (by simp [Chunk.len]) (fun _ _=>rfl))⟩
  rcases (n2.heap id _ hat1).2 with ⟨q1,q2⟩ | ⟨b,cap,q1,q2,q2',c,q3,q4,q5,q6⟩
  ·exact .inl ⟨q1,by rw [q2];rfl⟩
  ·refine .inr ⟨b,cap,q1,by simpa using q2,q2',c,q3,q4,fun j hj=>?_⟩
   rw [List.length_set] at hj
   by_cases hij:i.toNat=j
   ·subst hij
    obtain ⟨ds,k1,k2,k3⟩:=hel s1 n5 n6 b cap c q1 q3 hj
    exact ⟨ds,by rw [List.getElem_set_self];exact Ty.rel_mono hxt.kept t _ ds k1,k2,k3⟩
   ·obtain ⟨ds,k1,k2⟩:=q5 j hj (Ne.symm hij)
    exact ⟨ds,by rw [List.getElem_set_ne hij];exact Ty.rel_mono hxt.kept t _ ds k1,k2⟩
 rcases (h.heap id _ hat).2 with ⟨q1,q2⟩ | ⟨b,cap,q1,q2,q2',c,q3,q4,q5,q6⟩
 ·obtain ⟨x',rest,ids,hk⟩:=imp_any t cs _ hk
  split at hk
  ·rename_i hm
   exact main x' ids (Ka hm) hk.2 (fun s1 _ _ b cap c e1 _ _=>by rw [q1] at e1;cases e1)
  ·exact hk.elim
 ·by_cases hlt:i.toNat<xs.length
  ·obtain ⟨ds,r1,r2,r3⟩:=q6 hlt
   obtain ⟨x',rest,ids,v1,v2,hk,e1,e2,e3,e4,e5⟩:=imp_spec h t cs _ ds hk r1
   split at hk
   ·rename_i hm
    obtain ⟨rfl,hk⟩:=hk
    cases e3
    rw [List.append_nil] at e1
    subst e1
    refine main x' ids (Ka hm) hk (fun s1 g1 g2 b' cap' c' e1 e2 _=>?_)
    rw [q1] at e1;cases e1
    rw [q3] at e2;cases e2
    exact ⟨ds,e5 _ g1 (fun id hid b cap hb=>g2 id hid b cap hb (e4 id hid)),r2,r3⟩
   ·exact hk.elim
  ·obtain ⟨x',rest,ids,hk⟩:=imp_any t cs _ hk
   split at hk
   ·rename_i hm
    exact main x' ids (Ka hm) hk.2 (fun s1 _ _ b cap c _ _ hh=>absurd hh hlt)
   ·exact hk.elim
theorem set_spec:∀ (ids:List Nat) {s:St} (k:St→Prop),Sat G φ s a w→setK ids s k→∃ s',k s'∧Sat G φ s' a w∧s'.env=s.env∧s'.nx=s.nx
 | [],s,k,h,hk=>⟨s,hk,h,rfl,rfl⟩
 | id::r,s,k,h,hk=>by
  simp only [setK,St.use_eq] at hk
  split at hk
  ·rename_i e t xs i cs hat
   obtain ⟨s',h1,h2,h3,h4,_⟩:=h.set1 (k:=fun s'=>setK r s' k) hat hk
   obtain ⟨s2,k1,k2,k3,k4⟩:=set_spec r k h2 h1
   exact ⟨s2,k1,k2,k3.trans h3,k4.trans h4⟩
  ·exact hk.elim
def openK:List (Nat×Int×List CV)→St→(St→Prop)→Prop
 | [],s,k=>k s
 | (id,i,cs)::r,s,k=>match s.at id with
  | some (.arr e t xs)=>xs.length≤i.toNat∧s.use fun e0 h n=>openK r ⟨e0,(id,some (.hol e t xs i cs))::h,n⟩ k
  | _=>False
theorem open_spec:∀ (os:List (Nat×Int×List CV)) {s:St} (k:St→Prop),Sat G φ s a w→openK os s k→∃ s',k s'∧Sat G φ s' a w∧s'.env=s.env∧s'.nx=s.nx
 | [],s,k,h,hk=>⟨s,hk,h,rfl,rfl⟩
 | (id,i,cs)::r,s,k,h,hk=>by
  simp only [openK,St.use_eq] at hk
  split at hk
  ·rename_i e t xs hat
   obtain ⟨hle,hk⟩:=hk
   have h2:Sat G φ { s with heap:=(id,some (.hol e t xs i cs))::s.heap } a w:=h.turn hat rfl rfl rfl rfl rfl rfl (fun _ _=>rfl) (fun hxt=>by
    rcases (h.heap id _ hat).2 with ⟨q1,q2⟩ | ⟨b,cap,q1,q2,q2',c,q3,q4,q5⟩
    ·exact .inl ⟨q1,q2⟩
    ·refine .inr ⟨b,cap,q1,q2,q2',c,q3,q4,fun k hk _=>?_,fun hlt=>by omega⟩
     obtain ⟨ds,k1,k2⟩:=q5 k hk
     exact ⟨ds,Ty.rel_mono hxt.kept t _ ds k1,k2⟩)
   obtain ⟨s2,k1,k2,k3,k4⟩:=open_spec r k h2 hk
   exact ⟨s2,k1,k2,k3,k4⟩
  ·exact hk.elim
def litHK (τ:TE) (T:TypeId) (s:St) (len:Nat) (parts:List (Nat×Operand)) (k:AV→St→List Nat→Prop):Prop:=
 match lk τ T with
 | some i=>match i.desc with
  | .slice e=>match lk τ e with
   | some ie=>match ie.ty,Nat.ble ie.size 16777216,Nat.beq len 1 with
    | some t,true,true=>evsK s parts (fun ps=>fillK (seqPl ie.size 0 1) (zrep 1 (ie.zero.cells.toList.map Lj)) ps (fun cs=>
      s.use fun e0 h n=>k (.one (.osl n)) ⟨e0,(n,some (.hol e t [t.z] 0 cs))::h,n+1⟩ []))
    | _,_,_=>False
   | none=>False
  | _=>False
 | none=>False
theorem litH_spec (hτ:τ.Ok P) (h:Sat G φ s a w) {T:TypeId} {len:Nat} {parts:Array (Nat×Operand)} {k:AV→St→List Nat→Prop} (hk:litHK τ T s len parts.toList k) :
  ∃ u w',(Instr.buildSlice T len (parts.map fun (i,x)=>(i,a.eval x))).run P w = .ok u w'∧Done G φ s a w k u w':=by
 unfold litHK at hk
 simp only [St.use_eq,Ls] at hk
 split at hk
 ·rename_i i hi
  split at hk
  ·rename_i e hd
   split at hk
   ·rename_i ie hie
    split at hk
    ·rename_i t ht hbig hlenb
     have hbig:=Nat.le_of_ble_eq_true hbig
     have hlenb:=Nat.eq_of_beq_eq_true hlenb
     subst hlenb
     obtain ⟨hn,hz⟩:=(hτ e ie hie).ty t ht
     have hzs:ie.zero.cells.size=ie.size:=by rw [← Array.length_toList,hz,zv_len,hn]
     obtain ⟨ps,h5,h6⟩:=evs_spec h _ _ hk
     obtain ⟨cs',vs',h7,h8,h9,h9'⟩:=fill_spec (fun _ _=>CV.oneCell) (seqPl ie.size 0 1) (fun i=>some (i*ie.size,ie.size)) (fun i p hp=>by rw [seqPl_get _ _ _ _ _ hp];simp) ps _ _ (zrep 1 ie.zero.cells.toList) _ h6
      (zrep_all2 (Jr (hτ e ie hie).oc) 1) h5
     have hlen:vs'.length=t.n:=by
      rw [← h9.len,h9',zrep_len,List.length_map,Array.length_toList,hzs,hn,Nat.one_mul]
     have hg:=grow_alloc φ s w G (.cells ⟨vs'⟩ e) 1
     have hx:=h.grown_ext (ch:=.hol e t [t.z] 0 cs') (fun _ e=>by cases e) hg
     have hsat:Sat G (φ.set s.nx (some (w.heap.size,1))) (s.grown none (.hol e t [t.z] 0 cs')) a (w.alloc (.cells ⟨vs'⟩ e)):=by
      refine h.grow (fun _ e=>by cases e) hg (fun _ _ _ e=>by cases e) (.inr ⟨w.heap.size,1,Phi.set_same _ _ _,by simp,by rw [maxLen_eq];omega,⟨vs'⟩,heap_alloc_new w _,by simpa using hlen,fun k hk hki=>?_,fun _=>?_⟩)
      ·simp at hk;simp [hk] at hki
      ·refine ⟨vs',h9.mono (fun _ _=>CV.rel_ext hx),hlen,fun j hj=>?_⟩
       simp [hj]
     refine ⟨.slice (some ⟨w.heap.size,0,none⟩) 1 1,w.alloc (.cells ⟨vs'⟩ e),?_,_,_,_,_,h7,hsat,?_,eff_alloc h _ _ _,J3 _ _ _⟩
     ·have hu:=Gi hτ hi w
      rw [hd] at hu
      have hs:=Jj (P:=P) hτ hie w
      have hzr:=zero_run (P:=P) hτ hie w
      have hmk:=mkCells_zrep ie 1 hzs
      rw [← hmk] at h8
      unfold Instr.buildSlice
      simp only [Sem.run_bind,hu,Result.andThen_ok,hs]
      rw [if_neg (by omega)]
      by_cases hz0:1*ie.size=0
      ·simp [hz0,Kg] at h8 ⊢
       have:ie.size=0:=by omega
       simp [this] at h8 ⊢
       simp [h8,newRow]
      ·simp [hz0,Kg] at h8 ⊢
       have:¬ie.size=0:=by omega
       simp [this] at h8 ⊢
       simp [hzr,h8,newRow]
     ·refine ⟨by rw [G1];omega,rfl,fun n hn=>.inl ⟨w.heap.size,1,Phi.set_same _ _ _,?_⟩⟩
      simp only [St.ln,Jl,↓reduceIte,Chunk.len,Option.some.injEq] at hn
      rw [← hn];rfl
    ·exact hk.elim
   ·exact hk.elim
  ·exact hk.elim
 ·exact hk.elim
def setO (id:Nat) (s:St) (k:St→Prop):Prop:=match s.at id with
 | some (.hol _ _ _ _ _)=>setK [id] s k
 | _=>k s
theorem setO_spec (h:Sat G φ s a w) {id:Nat} {k:St→Prop} (hk:setO id s k) :
  ∃ s',k s'∧Sat G φ s' a w∧s'.env=s.env∧s'.nx=s.nx∧Ext G s s' φ φ w w∧∀ s'' φ'' w'' ,Eff G s' s'' φ φ'' w w'' [id]→Eff G s s'' φ φ'' w w'' [id]:=by
 unfold setO at hk
 split at hk
 ·rename_i e t xs i cs hat
  simp only [setK,hat,St.use_eq] at hk
  obtain ⟨s',h1,h2,h3,h4,h5,h6⟩:=h.set1 (k:=k) hat hk
  exact ⟨s',h1,h2,h3,h4,h6,fun s'' φ'' w'' hE=>⟨fun b hb hlt=>by
   obtain ⟨k1,k2⟩:=h5.kept b hb hlt
   obtain ⟨k3,k4⟩:=hE.kept b k1 hlt
   exact ⟨k3,k4.trans k2⟩,fun j hj=>h5.live j hj,Nat.le_trans h5.nx hE.nx,fun i hi=>(hE.phi i (Nat.lt_of_lt_of_le hi h5.nx)).trans (h5.phi i hi),hE.size,fun b hb hk=>hE.block b hb hk⟩⟩
 ·exact ⟨s,hk,h,rfl,rfl,⟨Nat.le_refl _,fun _ _=>rfl,fun _ _ _ h=>h,fun b hb _=>⟨hb,rfl⟩⟩,fun _ _ _ h=>h⟩
theorem app_satH (h:Sat G φ s a w) {gone:Option Nat} {v v':Value} {e:TypeId} {t:Ty} {xs:List t.D} {gcs:List CV} {cells news:List Value} {w':World}
  (hgone:∀ id,gone=some id→(∃ e' t' xs,s.at id=some (.arr e' t' xs))∧((φ id=none∧v = .slice none 0 0)∨∃ b cap n,φ id=some (b,cap)∧v = .slice (some ⟨b,0,none⟩) n cap))
  (hnone:gone=none→v = .slice none 0 0)
  (hown:w'.ownsRow 0 e t.n v' (xs.length+1) (cells++news)) (hg:w.grownBy w' v.ownBlock) (hblk:v'.ownBlock=v.ownBlock∨v'.ownBlock=some w.heap.size)
  (hcl:cells.length=xs.length*t.n) (hel:∀ i (hi:i<xs.length),t.rel w (G.im s φ) xs[i] ((cells.drop (i*t.n)).take t.n))
  (hnl:news.length=t.n) (hnew:All2 (CV.rel w (G.im s φ) φ s.ln s.nx) gcs news) :
  ∃ p,Sat G (φ.set s.nx p) (s.grown gone (.hol e t (xs++[t.z]) xs.length gcs)) a w'∧
   CV.rel w' (G.im (s.grown gone (.hol e t (xs++[t.z]) xs.length gcs)) (φ.set s.nx p)) (φ.set s.nx p) (s.grown gone (.hol e t (xs++[t.z]) xs.length gcs)).ln (s.grown gone (.hol e t (xs++[t.z]) xs.length gcs)).nx (.osl s.nx) v'∧
   Eff G s (s.grown gone (.hol e t (xs++[t.z]) xs.length gcs)) φ (φ.set s.nx p) w w' (goneL gone):=by
 have hrow:∀ b,v.ownBlock=some b→∃ id cap,gone=some id∧φ id=some (b,cap):=by
  intro b hb
  cases gone with
  | none=>rw [hnone rfl] at hb;cases hb
  | some id=>
   rcases (hgone id rfl).2 with ⟨_,e1⟩ | ⟨b',cap,n,h1,e1⟩
   ·rw [e1] at hb;cases hb
   ·rw [e1] at hb;cases hb;exact ⟨id,cap,rfl,h1⟩
 have hgo:∀ id,gone=some id→∃ c,s.at id=some c∧c.live=true:=fun id e1=>let ⟨⟨e',t',xs,h1⟩,_⟩:=hgone id e1;⟨_,h1,rfl⟩
 have hfr:∀ id b cap,gone=some id→φ id=some (b,cap)→G.w0.heap.size≤b∨G.mine b:=fun id b cap e1 e2=>by
  obtain ⟨c,h1,h2⟩:=hgo id e1
  exact (h.own id c b cap h1 h2 e2).2
 rcases hown.2 with ⟨_,hn⟩ | ⟨g,cap,cur,rfl,_,hgg,hnc,hcm,hcs,htake⟩
 ·omega
 ·have hp:∀ b c,some (g,cap)=some (b,c)→b<w'.heap.size∧(w.heap.size≤b∨∃ id cap',gone=some id∧φ id=some (b,cap')):=fun b c e1=>by
   cases e1
   refine ⟨Jv hgg,?_⟩
   rcases hblk with e2 | e2
   ·exact .inr (hrow g e2.symm)
   ·simp only [Value.ownBlock,Option.some.injEq] at e2
    exact .inl (Nat.le_of_eq e2.symm)
  have hG:Grow G φ s w w' gone (some (g,cap)):=⟨hg.os,hg.tape,hg.output,hg.size,fun b hb hne=>hg.block b hb (fun e1=>by
   obtain ⟨id,cap,e2,e3⟩:=hrow b e1.symm
   exact hne id cap e2 e3),hp⟩
  have hx:=h.grown_ext (ch:=.hol e t (xs++[t.z]) xs.length gcs) hgo hG
  have hlen:(xs++[t.z]).length=xs.length+1:=by simp
  have hln:(s.grown gone (.hol e t (xs++[t.z]) xs.length gcs)).ln s.nx=some (xs.length+1):=by simp [St.ln,Jl,Chunk.len]
  have htot:(cells++news).length=(xs.length+1)*t.n:=by rw [List.length_append,hcl,hnl,Nat.add_mul];omega
  have hget:∀ p,p<(xs.length+1)*t.n→cur[p]?=(cells++news)[p]?:=fun p hp=>by
   rw [← htake,List.getElem?_take,if_pos hp,Array.getElem?_toList]
  refine ⟨some (g,cap),h.grow hgo hG hfr (.inr ⟨g,cap,Phi.set_same _ _ _,by rw [hlen];exact hnc,hcm,cur,hgg,hcs,fun k hk hki=>?_,fun _=>?_⟩),?_,
   ⟨hx.kept,fun id hid=>by
    cases gone with
    | none=>cases hid
    | some i=>simp only [goneL,List.mem_singleton] at hid;subst hid;exact hgo id rfl,
   by rw [G1];omega,fun i hi=>Phi.set_lt φ _ hi,hg.size,fun b hb hne=>hG.block b hb (fun id cap e1 e2=>hne id (by rw [e1];simp [goneL]) cap e2)⟩⟩
  ·rw [hlen] at hk
   have hki':k≠xs.length:=by simpa using hki
   have hk':k<xs.length:=by omega
   have hr:=Ty.rel_mono hx.kept t _ _ (hel k hk')
   have hl:=Ty.rel_len t _ _ hr
   refine ⟨_,by rw [List.getElem_append_left hk'];exact hr,hl,fun j hj=>?_⟩
   rw [hl] at hj
   have hlt:k*t.n+j<xs.length*t.n:=by
    have:(k+1)*t.n≤xs.length*t.n:=Nat.mul_le_mul_right _ hk'
    rw [Nat.add_mul] at this;omega
   rw [hget _ (by rw [Nat.add_mul];omega),List.getElem?_append_left (by omega)]
   simp [List.getElem?_eq_getElem (show k*t.n+j<cells.length by omega)]
  ·refine ⟨news,hnew.mono (fun _ _=>CV.rel_ext hx),hnl,fun j hj=>?_⟩
   rw [Int.toNat_natCast,hget _ (by rw [Nat.add_mul];omega),List.getElem?_append_right (by omega),hcl]
   simp [List.getElem?_eq_getElem hj]
  ·refine ⟨by rw [G1];omega,rfl,fun n hn'=>.inl ⟨g,cap,Phi.set_same _ _ _,?_⟩⟩
   rw [hln] at hn'
   cases hn'
   rfl
def appHC (s:St) (e:TypeId) (t:Ty) (bytes:Nat) (gone:Option Nat) (xs:List t.D) (gcs:List CV) (k:AV→St→List Nat→Prop):Prop:=
 (xs.length+1)*bytes≤140737488355328∧s.use fun e0 h n=>k (.one (.osl n)) (grownC gone (.hol e t (xs++[t.z]) xs.length gcs) e0 h n) (goneL gone)
def appHK (τ:TE) (T T':TypeId) (s:St) (x y:CV) (k:AV→St→List Nat→Prop):Prop:=
 match Nat.beq T T',lk τ T with
 | true,some i=>match i.desc with
  | .slice e=>match lk τ e with
   | some ie=>match ie.ty,Nat.ble 1 ie.size,Nat.ble 1 ie.bytes with
    | some t,true,true=>match x,y with
     | .osl id,.osl idy=>match Nat.beq id idy with
      | false=>setO id s (fun s=>match s.at idy,s.at id with
       | some (.hol _ t2 ys q gcs),some (.arr e' t' xs)=>match Nat.beq e' e with
        | true=>Ty.eqK (.sl t) (.sl t2) ys (fun ys=>(ys.length=1∧q=0)∧Ty.eqK (.sl t) (.sl t') xs (fun xs=>appHC s e t ie.bytes (some id) xs gcs k))
        | false=>False
       | _,_=>False)
      | true=>False
     | .c (.slice none 0 0),.osl idy=>match s.at idy with
      | some (.hol _ t2 ys q gcs)=>Ty.eqK (.sl t) (.sl t2) ys (fun ys=>(ys.length=1∧q=0)∧appHC s e t ie.bytes none [] gcs k)
      | _=>False
     | _,_=>False
    | _,_,_=>False
   | none=>False
  | _=>False
 | _,_=>False
theorem appHC_spec (hτ:τ.Ok P) (h:Sat G φ s a w) {T e:TypeId} {i ie:TI} {t:Ty} {ty:TypeId} (hi:lk τ T=some i) (hd:i.desc = .slice e) (hie:lk τ e=some ie) (ht:ie.ty=some t) (hsz:1≤ie.size) (hby:1≤ie.bytes)
  {gone:Option Nat} {xs:List t.D} {gcs:List CV} {v vy:Value} {k:AV→St→List Nat→Prop} (hk:appHC s e t ie.bytes gone xs gcs k)
  (hgone:∀ id,gone=some id→(∃ e' t' xs,s.at id=some (.arr e' t' xs))∧((φ id=none∧v = .slice none 0 0)∨∃ b cap n,φ id=some (b,cap)∧v = .slice (some ⟨b,0,none⟩) n cap))
  (hnone:gone=none→v = .slice none 0 0)
  {cells:List Value} (hown:w.ownsRow 0 e t.n v xs.length cells) (hel:∀ i (hi:i<xs.length),t.rel w (G.im s φ) xs[i] ((cells.drop (i*t.n)).take t.n))
  {idy:Nat} {e2:TypeId} {ys:List t.D} (hy1:s.at idy=some (.hol e2 t ys 0 gcs)) (hy2:ys.length=1) (hy:CV.rel w (G.im s φ) φ s.ln s.nx (.osl idy) vy) :
  ∃ u w',(Builtin.append_ #[T,T] ty #[v,vy]).run P w = .ok u w'∧Done G φ s a w k u w':=by
 obtain ⟨hb,hk⟩:=hk
 simp only [St.use_eq,grownC_eq] at hk
 obtain ⟨hn,hz⟩:=(hτ e ie hie).ty t ht
 obtain ⟨ji,p1,p2,p3,p4⟩:=(hτ e ie hie).info
 have hu:P.underlying T=some (.slice e):=by rw [(hτ T i hi).und,hd]
 have hlny:s.ln idy=some 1:=by simp [St.ln,hy1,Chunk.len,hy2]
 obtain ⟨_,_,y3⟩:=hy
 rcases y3 _ hlny with ⟨b,cap,hb1,rfl⟩ | ⟨_,hbad,_⟩
 ·rcases (h.heap idy _ hy1).2 with ⟨q1,_⟩ | ⟨b2,cap2,q1,q2,q2',c,q3,q4,q5,q6⟩
  ·rw [hb1] at q1;cases q1
  ·rw [hb1] at q1;cases q1
   obtain ⟨news,r1,r2,r3⟩:=q6 (by rw [hy2];decide)
   have h63':xs.length+1≤maxLen:=by
    have:(xs.length+1)*1≤(xs.length+1)*ie.bytes:=Nat.mul_le_mul_left _ hby
    rw [maxLen_eq];omega
   obtain ⟨v',w',g1,g2,g3,_,g5⟩:=run_append_own_at (P:=P) w 0 T ty e ji ie.zero t.n ie.bytes hu p1 p4 (by rw [p2,hn]) p3
    (by rw [← Array.length_toList,hz,zv_len]) (by omega) v xs.length cells hown ⟨b,0,none⟩ 1 cap news (by rw [r2];omega) (fun j u hu=>by
     obtain ⟨hj,rfl⟩:=List.getElem?_eq_some_iff.1 hu
     have:=r3 j hj
     simp at this
     rw [J5];simp [World.cell?,q3,this]) (fun u hu=>by
     obtain ⟨j,hj,rfl⟩:=List.getElem_of_mem hu
     obtain ⟨c',hc',hr⟩:=r1.get_right j _ (List.getElem?_eq_getElem hj)
     exact CV.oneCell hr) h63' hb (Nat.zero_le _)
   obtain ⟨p,k1,k2,k3⟩:=app_satH h hgone hnone g2 g3 g5 hown.1 hel r2 r1
   exact ⟨v',w',g1,_,_,_,_,hk,k1,k2,k3,J3 _ _ _⟩
 ·omega
theorem appH_spec (hτ:τ.Ok P) (h:Sat G φ s a w) {T T':TypeId} {ty:TypeId} {x y:CV} {vx vy:Value} {k:AV→St→List Nat→Prop} (hk:appHK τ T T' s x y k)
  (hx:CV.rel w (G.im s φ) φ s.ln s.nx x vx) (hy:CV.rel w (G.im s φ) φ s.ln s.nx y vy) :
  ∃ u w',(Builtin.append_ #[T,T'] ty #[vx,vy]).run P w = .ok u w'∧Done G φ s a w k u w':=by
 unfold appHK at hk
 split at hk
 ·rename_i i hT hi
  have hT:=Nat.eq_of_beq_eq_true hT
  subst hT
  split at hk
  ·rename_i e hd
   split at hk
   ·rename_i ie hie
    split at hk
    ·rename_i t ht hsz hby
     have hsz:=Nat.le_of_ble_eq_true hsz
     have hby:=Nat.le_of_ble_eq_true hby
     split at hk
     ·rename_i id idy
      split at hk
      ·obtain ⟨s1,hkA,h1,e1,e2,hx1,hE⟩:=setO_spec h hk
       clear hk
       split at hkA
       ·rename_i e3 t2 ys q gcs e' t' xs hat1 hat2
        split at hkA
        ·rename_i he
         have he:=Nat.eq_of_beq_eq_true he
         subst he
         obtain ⟨ys',⟨⟨hl,rfl⟩,hkB⟩,h2,h3⟩:=Ty.eqK_spec hkA
         clear hkA
         cases h2
         cases h3
         obtain ⟨xs',hk,h2,h3⟩:=Ty.eqK_spec hkB
         clear hkB
         cases h2
         cases h3
         obtain ⟨cells,c1,c2,c3⟩:=h1.ownsRow hat2 (CV.rel_ext hx1 hx)
         obtain ⟨u,w',g1,v2,s',φ',m,k1,k2,k3,k4,k5⟩:=appHC_spec hτ h1 hi hd hie ht hsz hby (gone:=some id) (ty:=ty) (k:=fun v s' m=>k v s' m∧m=[id]) ⟨hk.1,by
          have:=hk.2
          simp only [St.use_eq] at this ⊢
          exact ⟨this,rfl⟩⟩ (fun id' e1=>by cases e1;exact ⟨⟨_,_,_,hat2⟩,c3⟩) (fun e1=>by cases e1) c1 c2 hat1 hl (CV.rel_ext hx1 hy)
         obtain ⟨k1,rfl⟩:=k1
         exact ⟨u,w',g1,v2,s',φ',[id],k1,k2,k3,hE _ _ _ k4,k5.trans e1⟩
        ·exact hkA.elim
       ·exact hkA.elim
      ·exact hk.elim
     ·rename_i idy
      split at hk
      ·rename_i e3 t2 ys q gcs hat1
       obtain ⟨ys',⟨⟨hl,rfl⟩,hkB⟩,h2,h3⟩:=Ty.eqK_spec hk
       clear hk
       cases h2
       cases h3
       obtain ⟨rfl,_⟩:=hx
       exact appHC_spec hτ h hi hd hie ht hsz hby hkB (fun id' e1=>by cases e1) (fun _=>rfl) (cells:=[]) ⟨by simp,.inl ⟨rfl,rfl⟩⟩ (fun i hi=>by simp at hi) hat1 hl hy
      ·exact hk.elim
     ·exact hk.elim
    ·exact hk.elim
   ·exact hk.elim
  ·exact hk.elim
 ·exact hk.elim
def storeHK (τ:TE) (T:TypeId) (s:St) (x:CV) (v:AV) (k:St→List Nat→Prop):Prop:=
 match lk τ T with
 | some i=>match x,v.cells with
  | .ep id sz ix 0,y::ys=>setO id s (fun s=>match s.at id with
   | some (.arr e t xs)=>match Nat.beq sz t.n&&(Nat.beq i.size t.n&&Nat.beq (y::ys).length i.size) with
    | true=>s.use fun e0 h n=>k ⟨e0,(id,some (.hol e t xs ix (y::ys)))::h,n⟩ [id]
    | false=>False
   | _=>False)
  | _,_=>False
 | none=>False
theorem storeH_spec (hτ:τ.Ok P) (h:Sat G φ s a w) {T:TypeId} {x:CV} {v:AV} {vx vv:Value} {k:St→List Nat→Prop} (hk:storeHK τ T s x v k)
  (hx:CV.rel w (G.im s φ) φ s.ln s.nx x vx) (hv:v.relR (CV.rel w (G.im s φ) φ s.ln s.nx) vv) :
  ∃ w',(Instr.storeAt T vx vv).run P w = .ok () w'∧DoneU G φ s a w k w':=by
 unfold storeHK at hk
 simp only [St.use_eq] at hk
 split at hk
 ·rename_i i hi
  split at hk
  ·rename_i id sz j y ys hc
   have ht:∀ l,v≠.tup l:=fun l e=>by subst e;simp [AV.cells] at hc
   obtain ⟨s1,hkA,h1,e1,e2,hx1,hE⟩:=setO_spec h hk
   clear hk
   obtain ⟨c1,c2⟩:=AV.cells_rel (fun _ _=>CV.oneCell) (AV.rel_ext hx1 hv) ht
   split at hkA
   ·rename_i e t xs hat
    split at hkA
    ·rename_i hb
     simp only [Bool.and_eq_true] at hb
     have b1:=Nat.eq_of_beq_eq_true hb.1
     have b2:=Nat.eq_of_beq_eq_true hb.2.1
     have b3:=Nat.eq_of_beq_eq_true hb.2.2
     subst b1
     rw [hc] at c1
     have hvl:vv.cells.toList.length=t.n:=by rw [← c1.len,b3,b2]
     have hsz:vv.cells.size=i.size:=by rw [← Array.length_toList,hvl,b2]
     obtain ⟨_,⟨b,cap,x2,rfl⟩,x3⟩:=CV.rel_ext hx1 hx
     have hj:=x3 _ (J0 hat)
     rcases (h1.heap id _ hat).2 with ⟨q1,_⟩ | ⟨b',cap',q1,q2,q3,c,q4,q5,q6⟩
     ·rw [x2] at q1;cases q1
     ·rw [x2] at q1;cases q1
      have hle0:j.toNat*t.n+t.n≤xs.length*t.n:=by
       have:(j.toNat+1)*t.n≤xs.length*t.n:=Nat.mul_le_mul_right _ hj
       rw [Nat.add_mul] at this;omega
      have hcap:xs.length*t.n≤cap*t.n:=Nat.mul_le_mul_right _ q2
      have hle:j.toNat*t.n+vv.cells.toList.length≤c.size:=by rw [hvl,q5];omega
      have hrun:=store_run hτ hi hsz c2 w q4 hle
      obtain ⟨r1,r2,r3⟩:=setRow_row q4 ((c.toList.take (j.toNat*t.n)++vv.cells.toList++c.toList.drop (j.toNat*t.n+vv.cells.toList.length)).toArray)
      have hother:∀ k,(∀ cap,φ id≠some (k,cap))→(w.setRow b ((c.toList.take (j.toNat*t.n)++vv.cells.toList++c.toList.drop (j.toNat*t.n+vv.cells.toList.length)).toArray)).heap[k]?=w.heap[k]?:=fun k hk=>r3 k (fun e=>hk cap (by rw [e];exact x2))
      refine ⟨_,hrun,_,φ,_,hkA,h1.turn hat rfl (by simp [Chunk.len]) rfl rfl rfl r2 hother (fun hxt=>?_),hE _ _ _ (eff_turn h1 hat rfl (by simp [Chunk.len]) r2 hother),e1⟩
      have hput:=fun p=>put_get c.toList vv.cells.toList (j.toNat*t.n) p (by simpa using hle)
      refine .inr ⟨b,cap,x2,q2,q3,_,r1,?_,fun q hq hqj=>?_,fun _=>?_⟩
      ·simp only [List.size_toArray,List.length_append,List.length_take,List.length_drop,Array.length_toList];omega
      ·obtain ⟨ds',u1,u2,u3⟩:=q6 q hq
       refine ⟨ds',Ty.rel_mono hxt.kept t _ _ u1,u2,fun p hp=>?_⟩
       rw [List.getElem?_toArray,hput,if_neg,Array.getElem?_toList,u3 p hp]
       rw [u2] at hp
       rw [hvl]
       intro ⟨w1,w2⟩
       rcases Nat.lt_or_gt_of_ne hqj with hlt | hlt
       ·have:(q+1)*t.n≤j.toNat*t.n:=Nat.mul_le_mul_right _ hlt
        rw [Nat.add_mul] at this;omega
       ·have:(j.toNat+1)*t.n≤q*t.n:=Nat.mul_le_mul_right _ hlt
        rw [Nat.add_mul] at this;omega
      ·refine ⟨vv.cells.toList,c1.mono (fun _ _=>CV.rel_ext hxt),hvl,fun p hp=>?_⟩
       rw [List.getElem?_toArray,hput,if_pos (by omega),show j.toNat*t.n+p-j.toNat*t.n=p by omega,List.getElem?_eq_getElem hp]
    ·exact hkA.elim
   ·exact hkA.elim
  ·exact hk.elim
 ·exact hk.elim
end
end Go.AM
