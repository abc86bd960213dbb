
import Derived.Test.YtokgamncgleelaaGreatAmD
set_option linter.unusedVariables false
set_option linter.unusedSimpArgs false
namespace Go.AM
def isA:TypeDesc→Bool
 | .struct _=>true
 | .array _ _=>true
 | _=>false
structure Eff (G:Ctx) (s s':St) (φ φ':Phi) (w w':World) (m:List Nat):Prop where
 kept:Kept (G.im s φ) (G.im s' φ') w w'
 live:∀ id,id ∈ m→∃ ch,s.at id=some ch∧ch.live=true
 nx:s.nx≤s'.nx
 phi:∀ i,i<s.nx→φ' i=φ i
 size:w.heap.size≤w'.heap.size
 block:∀ b,b<w.heap.size→(∀ id,id ∈ m→∀ cap,φ id≠some (b,cap))→w'.heap[b]?=w.heap[b]?
def Done (G:Ctx) (φ:Phi) (s:St) (a:Act) (w:World) (k:AV→St→List Nat→Prop) (u:Value) (w':World):Prop:=
 ∃ v s' φ' m,k v s' m∧Sat G φ' s' a w'∧v.relR (CV.rel w' (G.im s' φ') φ' s'.ln s'.nx) u∧Eff G s s' φ φ' w w' m∧s'.env=s.env
section
variable {P:Program} {τ:TE} {G:Ctx} {φ:Phi} {s:St} {a:Act} {w:World}
theorem Eff.refl (G:Ctx) (s:St) (φ:Phi) (w:World):Eff G s s φ φ w w []:=⟨fun b hb _=>⟨hb,rfl⟩,(fun _ h=>nomatch h),Nat.le_refl _,fun _ _=>rfl,Nat.le_refl _,fun _ _ _=>rfl⟩
theorem Eff.trans {G:Ctx} {s s1 s2:St} {φ φ1 φ2:Phi} {w w1 w2:World} {m:List Nat} (h:Eff G s s1 φ φ1 w w1 []) (h':Eff G s1 s2 φ1 φ2 w1 w2 m) (hm:∀ id ∈ m,id<s.nx∧∃ ch,s.at id=some ch∧ch.live=true):Eff G s s2 φ φ2 w w2 m:=
 ⟨fun b hb hlt=>⟨(h'.kept b (h.kept b hb hlt).1 (Nat.lt_of_lt_of_le hlt h.size)).1,((h'.kept b (h.kept b hb hlt).1 (Nat.lt_of_lt_of_le hlt h.size)).2).trans (h.kept b hb hlt).2⟩,fun id hid=>(hm id hid).2,
  Nat.le_trans h.nx h'.nx,fun i hi=>(h'.phi i (Nat.lt_of_lt_of_le hi h.nx)).trans (h.phi i hi),Nat.le_trans h.size h'.size,
  fun b hb hmm=>(h'.block b (Nat.lt_of_lt_of_le hb h.size) (fun id hid cap=>by rw [h.phi id (hm id hid).1];exact hmm id hid cap)).trans (h.block b hb (fun id hid=>by cases hid))⟩
theorem Done.value (h:Sat G φ s a w) {k:AV→St→List Nat→Prop} {v:AV} {u:Value} (hk:k v s []) (hv:v.relR (CV.rel w (G.im s φ) φ s.ln s.nx) u):Done G φ s a w k u w:=
 ⟨v,s,φ,[],hk,h,hv,Eff.refl G s φ w,rfl⟩
theorem Jj (hτ:τ.Ok P) {t:TypeId} {i:TI} (h:lk τ t=some i) (w:World):(sizeOf t).run P w = .ok i.size w:=by
 obtain ⟨j,h1,h2,_⟩:=(hτ t i h).info
 simp [sizeOf,typeInfo,h1,h2]
theorem zero_run (hτ:τ.Ok P) {t:TypeId} {i:TI} (h:lk τ t=some i) (w:World):(zeroValue t).run P w = .ok i.zero w:=by
 obtain ⟨j,h1,h2,h3,h4⟩:=(hτ t i h).info
 simp [zeroValue,typeInfo,h1,h4]
theorem J1 (hτ:τ.Ok P) {t:TypeId} {i:TI} (h:lk τ t=some i) (w:World):(isAgg t).run P w = .ok (isA i.desc) w:=by
 simp only [isAgg,Sem.run_bind,Gi hτ h,Result.andThen_ok]
 cases i.desc <;> rfl
theorem J5 (b o n:Nat):(⟨b,o,none⟩:Addr).add n=⟨b,o+n,none⟩:=by
 unfold Addr.add
 split
 ·rename_i h;subst h;rfl
 ·rfl
def pubK:List Nat→St→(St→Prop)→Prop
 | [],s,k=>k s
 | id::r,s,k=>match s.at id with
  | some (.arr e t xs)=>s.use fun e0 h n=>pubK r ⟨e0,(id,some (.pub e t xs))::h,n⟩ k
  | some (.pub _ _ _)=>pubK r s k
  | _=>False
theorem Sat.pub1 (h:Sat G φ s a w) {id:Nat} {e:TypeId} {t:Ty} {xs:List t.D} (hat:s.at id=some (.arr e t xs)) :
  Sat G φ { s with heap:=(id,some (.pub e t xs))::s.heap } a w∧(∀ b,G.im s φ b→G.im { s with heap:=(id,some (.pub e t xs))::s.heap } φ b)∧
   (∀ b cap,φ id=some (b,cap)→G.im { s with heap:=(id,some (.pub e t xs))::s.heap } φ b)∧Ext G s { s with heap:=(id,some (.pub e t xs))::s.heap } φ φ w w:=by
 have him:∀ b,G.im s φ b→G.im { s with heap:=(id,some (.pub e t xs))::s.heap } φ b:=fun b hb=>by
  refine ⟨hb.1,fun hl=>hb.2 ?_⟩
  obtain ⟨i,c,cap,k1,k2,k3⟩:=hl
  rw [Jf] at k1
  by_cases hid:id=i
  ·subst hid;simp only [↓reduceIte,Option.some.injEq] at k1;subst k1;cases k2
  ·rw [if_neg hid] at k1;exact ⟨i,c,cap,k1,k2,k3⟩
 have hib:∀ b cap,φ id=some (b,cap)→G.im { s with heap:=(id,some (.pub e t xs))::s.heap } φ b:=fun b cap hb=>by
  refine ⟨?_,fun hl=>?_⟩
  ·rcases (h.own id _ b cap hat rfl hb).2 with k | k
   ·exact .inr (.inl k)
   ·exact .inr (.inr k)
  ·obtain ⟨i,c,cap',k1,k2,k3⟩:=hl
   rw [Jf] at k1
   by_cases hid:id=i
   ·subst hid;simp only [↓reduceIte,Option.some.injEq] at k1;subst k1;cases k2
   ·rw [if_neg hid] at k1
    exact hid (h.sep id i _ c b cap cap' hat k1 rfl k2 hb k3)
 have hx:Ext G s { s with heap:=(id,some (.pub e t xs))::s.heap } φ φ w w:=by
  refine ⟨Nat.le_refl _,fun _ _=>rfl,fun i hi n hn=>?_,fun b hb hlt=>⟨him b hb,rfl⟩⟩
  simp only [St.ln,Jf] at hn ⊢
  by_cases hid:id=i
  ·subst hid;simp only [↓reduceIte,Chunk.len] at hn;rw [hat];exact hn
  ·rw [if_neg hid] at hn;exact hn
 refine ⟨h.turn hat rfl rfl rfl rfl rfl rfl (fun _ _=>rfl) (fun _=>?_),him,hib,hx⟩
 rcases (h.heap id _ hat).2 with ⟨h1,h2⟩ | ⟨b,cap,h1,h2,h2',c,h3,h4,h5⟩
 ·exact .inl ⟨h1,h2⟩
 ·refine .inr ⟨b,cap,h1,h2,fun hne=>⟨hib b cap h1,c,e,(0,0),h3,fun i hi=>?_⟩⟩
  obtain ⟨ds,k1,k2,k3⟩:=h5 i hi
  exact ⟨ds,Ty.rel_mono hx.kept t _ ds k1,k2,fun j hj=>by rw [Nat.zero_add];exact k3 j hj⟩
theorem J8:∀ (ids:List Nat) {s:St} (k:St→Prop),Sat G φ s a w→pubK ids s k→
  ∃ s',k s'∧Sat G φ s' a w∧s'.env=s.env∧s'.nx=s.nx∧(∀ b,G.im s φ b→G.im s' φ b)∧(∀ id ∈ ids,∀ b cap,φ id=some (b,cap)→(∃ e t xs,s.at id=some (.arr e t xs))→G.im s' φ b)∧Ext G s s' φ φ w w∧
   (∀ id,id ∉ ids→s'.at id=s.at id)∧(∀ id c,s'.at id=some c→c.live=true→s.at id=some c)
 | [],s,k,h,hk=>⟨s,hk,h,rfl,rfl,fun _ h=>h,(fun _ hid=>nomatch hid),⟨Nat.le_refl _,fun _ _=>rfl,fun _ _ _ h=>h,fun b hb _=>⟨hb,rfl⟩⟩,fun _ _=>rfl,fun _ _ h _=>h⟩
 | id::r,s,k,h,hk=>by
  simp only [pubK,St.use_eq] at hk
  split at hk
  ·rename_i e t xs hat
   obtain ⟨h1,h2,h3,h4⟩:=h.pub1 hat
   obtain ⟨s',k1,k2,k3,k4,k5,k6,k7,k8,k9⟩:=J8 r k h1 hk
   refine ⟨s',k1,k2,k3,k4,fun b hb=>k5 b (h2 b hb),fun i hi b cap hb hx=>?_,?_,fun i hi=>?_,fun i c hc hl=>?_⟩
   ·by_cases hid:id=i
    ·subst hid;exact k5 b (h3 b cap hb)
    ·refine k6 i ((List.mem_cons.1 hi).resolve_left (fun e=>hid e.symm)) b cap hb ?_
     obtain ⟨e',t',xs',hx⟩:=hx
     exact ⟨e',t',xs',by rw [Jf,if_neg hid];exact hx⟩
   ·exact ⟨Nat.le_trans h4.nx k7.nx,fun i hi=>rfl,fun i hi n hn=>h4.ln i hi n (k7.ln i hi n hn),fun b hb hlt=>⟨k5 b (h2 b hb),rfl⟩⟩
   ·rw [k8 i (fun hm=>hi (List.mem_cons_of_mem _ hm)),Jf,if_neg (fun e=>hi (by rw [e];exact List.mem_cons_self))]
   ·have:=k9 i c hc hl
    rw [Jf] at this
    split at this
    ·cases this;cases hl
    ·exact this
  ·rename_i e t xs hat
   obtain ⟨s',k1,k2,k3,k4,k5,k6,k7,k8,k9⟩:=J8 r k h hk
   refine ⟨s',k1,k2,k3,k4,k5,fun i hi b cap hb hx=>?_,k7,fun i hi=>k8 i (fun hm=>hi (List.mem_cons_of_mem _ hm)),k9⟩
   by_cases hid:id=i
   ·subst hid;obtain ⟨e',t',xs',hx⟩:=hx;rw [hat] at hx;cases hx
   ·exact k6 i ((List.mem_cons.1 hi).resolve_left (fun e=>hid e.symm)) b cap hb hx
  ·exact hk.elim
def memK (s:St) (x:CV) (K:List CV→Nat→Prop):Prop:=
 match x with
 | .ptr id off=>match s.at id with
  | some (.cells cs)=>K cs off
  | _=>False
 | .ep id sz i off=>match s.at id with
  | some (.arr _ t xs)=>match Nat.beq sz t.n with
   | true=>K (Jc t (rd t.z xs i)) off
   | false=>False
  | some (.pub _ t xs)=>match Nat.beq sz t.n with
   | true=>K (Jc t (rd t.z xs i)) off
   | false=>False
  | some (.hol _ t xs q cs)=>match Nat.beq sz t.n with
   | true=>i=q∧K cs off
   | false=>False
  | _=>False
 | .ip t x off=>K (Jc t x) off
 | _=>False
theorem rd_get {α:Type} (z:α) (xs:List α) (i:Int) (h:i.toNat<xs.length):rd z xs i=xs[i.toNat]:=by
 simp [rd,List.getD,h]
theorem mem_spec (h:Sat G φ s a w) {x:CV} {K:List CV→Nat→Prop} {v:Value} (hk:memK s x K) (hv:CV.rel w (G.im s φ) φ s.ln s.nx x v) :
  ∃ cs off b o vs,K cs off∧v = .pointer (some ⟨b,o+off,none⟩)∧All2 (CV.rel w (G.im s φ) φ s.ln s.nx) cs vs∧
   ∀ j u,vs[j]?=some u→w.cell? ⟨b,o+j,none⟩=some u:=by
 unfold memK at hk
 split at hk
 ·split at hk
  ·rename_i id off _ cs hat
   obtain ⟨_,b,cap,h1,rfl⟩:=hv
   obtain ⟨b',cap',h2,vs,T,h3,h4⟩:=(h.heap id _ hat).2
   rw [h1] at h2;cases h2
   exact ⟨cs,off,b,0,vs,hk,by simp,h4,fun j u hu=>by simp [World.cell?,h3,hu]⟩
  ·exact hk.elim
 ·split at hk
  ·split at hk
   ·rename_i id sz i off _ e t xs hat _ hsz
    have hsz:=Nat.eq_of_beq_eq_true hsz
    subst hsz
    obtain ⟨_,⟨b,cap,h1,rfl⟩,hi⟩:=hv
    have hi:=hi _ (J0 hat)
    rcases (h.heap id _ hat).2 with ⟨h2,_⟩ | ⟨b',cap',h2,h3,h3',c,h4,h5,h6⟩
    ·rw [h1] at h2;cases h2
    ·rw [h1] at h2;cases h2
     obtain ⟨ds,k1,k2,k3⟩:=h6 i.toNat hi
     rw [rd_get _ _ _ hi] at hk
     refine ⟨_,off,b,i.toNat*t.n,ds,hk,rfl,Gz t _ ds k1,fun j u hu=>?_⟩
     obtain ⟨hj,rfl⟩:=List.getElem?_eq_some_iff.1 hu
     simp [World.cell?,h4,k3 j hj]
   ·exact hk.elim
  ·split at hk
   ·rename_i id sz i off _ e t xs hat _ hsz
    have hsz:=Nat.eq_of_beq_eq_true hsz
    subst hsz
    obtain ⟨_,⟨b,cap,h1,rfl⟩,hi⟩:=hv
    have hi:=hi _ (Lr hat)
    rcases (h.heap id _ hat).2 with ⟨h2,_⟩ | ⟨b',cap',h2,h3,h4⟩
    ·rw [h1] at h2;cases h2
    ·rw [h1] at h2;cases h2
     obtain ⟨_,c,T,z,h5,h6⟩:=h4 (fun e=>by rw [e] at hi;simp at hi)
     obtain ⟨ds,k1,k2,k3⟩:=h6 i.toNat hi
     rw [rd_get _ _ _ hi] at hk
     refine ⟨_,off,b,i.toNat*t.n,ds,hk,rfl,Gz t _ ds k1,fun j u hu=>?_⟩
     obtain ⟨hj,rfl⟩:=List.getElem?_eq_some_iff.1 hu
     have:=k3 j hj
     rw [Nat.zero_add] at this
     simp [World.cell?,h5,this]
   ·exact hk.elim
  ·split at hk
   ·rename_i id sz i off _ e t xs q cs hat _ hsz
    have hsz:=Nat.eq_of_beq_eq_true hsz
    subst hsz
    obtain ⟨rfl,hk⟩:=hk
    obtain ⟨_,⟨b,cap,h1,rfl⟩,hi⟩:=hv
    have hi:=hi xs.length (by simp [St.ln,hat,Chunk.len])
    rcases (h.heap id _ hat).2 with ⟨h2,_⟩ | ⟨b',cap',h2,h3,h3',c,h4,h5,h6,h7⟩
    ·rw [h1] at h2;cases h2
    ·rw [h1] at h2;cases h2
     obtain ⟨ds,k1,k2,k3⟩:=h7 hi
     refine ⟨_,off,b,i.toNat*t.n,ds,hk,rfl,k1,fun j u hu=>?_⟩
     obtain ⟨hj,rfl⟩:=List.getElem?_eq_some_iff.1 hu
     simp [World.cell?,h4,k3 j hj]
   ·exact hk.elim
  ·exact hk.elim
 ·rename_i t x off
  obtain ⟨b,o,c,T,z,ds,h1,h2,h3,h4,h5⟩:=hv
  refine ⟨_,off,b,o,ds,hk,h1,Gz t _ ds h4,fun j u hu=>?_⟩
  obtain ⟨hj,rfl⟩:=List.getElem?_eq_some_iff.1 hu
  simp [World.cell?,h3,h5 j hj]
 ·exact hk.elim
def loadK (τ:TE) (t:TypeId) (s:St) (x:CV) (k:AV→Prop):Prop:=
 match lk τ t with
 | some i=>memK s x (fun cs off=>match isA i.desc with
  | true=>dp off cs (fun r=>tk i.size r (fun ys=>k (.agg ys)))
  | false=>nth cs off (fun y=>k (.one y)))
 | none=>False
theorem load_spec (hτ:τ.Ok P) (h:Sat G φ s a w) {t:TypeId} {x:CV} {k:AV→Prop} {v:Value} (hk:loadK τ t s x k) (hv:CV.rel w (G.im s φ) φ s.ln s.nx x v) :
  ∃ r u,k r∧(∀ w',(∀ b o,v = .pointer (some ⟨b,o,none⟩)→w'.heap[b]?=w.heap[b]?)→(Instr.loadAt t v).run P w' = .ok u w')∧r.relR (CV.rel w (G.im s φ) φ s.ln s.nx) u:=by
 unfold loadK at hk
 split at hk
 ·rename_i i hi
  obtain ⟨cs,off,b,o,vs,h1,rfl,h2,h3⟩:=mem_spec h hk hv
  have h3':∀ w':World,w'.heap[b]?=w.heap[b]?→∀ j u,vs[j]?=some u→w'.cell? ⟨b,o+j,none⟩=some u:=fun w' hw' j u hu=>by
   rw [World.cell?_of_block (w:=w) (a:=⟨b,o+j,none⟩) hw'];exact h3 j u hu
  split at h1
  ·rename_i hA
   obtain ⟨l1,l2⟩:=dp_spec _ _ _ h1
   obtain ⟨l3,l4⟩:=tk_spec _ _ _ l2
   have h4:=(h2.drop off).take i.size
   have hlen:((vs.drop off).take i.size).length=i.size:=by rw [← h4.len,List.length_take];omega
   refine ⟨_,.agg ⟨(vs.drop off).take i.size⟩,l4,fun w' hw'=>?_,⟨_,rfl,h4⟩⟩
   have hc:=run_loadCells_list (P:=P) w' ⟨b,o+off,none⟩ ((vs.drop off).take i.size) (fun j u hu=>by
    rw [J5,Nat.add_assoc]
    refine h3' w' (hw' b _ rfl) (off+j) u ?_
    rw [List.getElem?_take] at hu
    split at hu
    ·rwa [List.getElem?_drop] at hu
    ·cases hu)
   rw [hlen] at hc
   simp only [Instr.loadAt,Instr.sureAddr,loadVar,Sem.run_bind,Sem.run_pure,Result.andThen_ok,J1 hτ hi,hA,if_true,Jj hτ hi,hc]
  ·rename_i hA
   obtain ⟨y,l1,l2⟩:=Jz _ _ _ h1
   obtain ⟨u,l3,l4⟩:=h2.get _ _ l1
   refine ⟨_,u,l2,fun w' hw'=>?_,l4⟩
   have:=h3' w' (hw' b _ rfl) off u l3
   simp only [Instr.loadAt,Instr.sureAddr,loadVar,Sem.run_bind,Sem.run_pure,Result.andThen_ok,J1 hτ hi,hA,Bool.false_eq_true,if_false,run_load,this]
 ·exact hk.elim
theorem grow_alloc (φ:Phi) (s:St) (w:World) (G:Ctx) (o:Obj) (cap:Nat):Grow G φ s w (w.alloc o) none (some (w.heap.size,cap)):=
 ⟨rfl,rfl,rfl,by simp,fun b hb _=>by rw [heap_alloc_old w o b hb],fun b c hbc=>by cases hbc;exact ⟨by simp,.inl (Nat.le_refl _)⟩⟩
theorem eff_alloc (h:Sat G φ s a w) (o:Obj) (ch:Chunk) (cap:Nat):Eff G s (s.grown none ch) φ (φ.set s.nx (some (w.heap.size,cap))) w (w.alloc o) []:=
 ⟨(h.grown_ext (ch:=ch) (fun _ e=>by cases e) (grow_alloc φ s w G o cap)).kept,(fun _ h=>nomatch h),by rw [G1];omega,fun i hi=>Phi.set_lt φ _ hi,by simp,fun b hb _=>heap_alloc_old w o b hb⟩
theorem Sat.new_cells (h:Sat G φ s a w) {cs:List CV} {vs:List Value} (T:TypeId) (hv:All2 (CV.rel w (G.im s φ) φ s.ln s.nx) cs vs) :
  Sat G (φ.set s.nx (some (w.heap.size,0))) (s.grown none (.cells cs)) a (w.alloc (.cells ⟨vs⟩ T)):=by
 have hg:=grow_alloc φ s w G (.cells ⟨vs⟩ T) 0
 have hx:=h.grown_ext (ch:=.cells cs) (fun _ e=>by cases e) hg
 refine h.grow (fun _ e=>by cases e) hg (fun _ _ _ e=>by cases e) ?_
 exact ⟨w.heap.size,0,Phi.set_same _ _ _,vs,T,heap_alloc_new w _,hv.mono (fun _ _=>CV.rel_ext hx)⟩
def AV.cells:AV→List CV
 | .one x=>[x]
 | .agg cs=>cs
 | .tup _=>[]
theorem AV.cells_rel {R:CV→Value→Prop} (hR:∀ x v,R x v→v.oneCell'=true) {x:AV} {v:Value} (h:x.relR R v) (ht:∀ l,x≠.tup l):All2 R x.cells v.cells.toList∧∀ u ∈ v.cells.toList,u.oneCell'=true:=by
 cases x with
 | one x=>
  have:=hR x v h
  have hc:v.cells = #[v]:=by cases v <;> first | rfl | cases this
  rw [hc]
  exact ⟨.cons h .nil,by simpa using this⟩
 | agg cs=>
  obtain ⟨vs,rfl,h2⟩:=h
  refine ⟨h2,?_⟩
  have aux:∀ {cs:List CV} {vs:List Value},All2 R cs vs→∀ u ∈ vs,u.oneCell'=true:=by
   intro cs vs h
   induction h with
   | nil=>simp
   | cons h1 _ ih=>intro u hu;rcases List.mem_cons.1 hu with rfl | hu;exact hR _ _ h1;exact ih u hu
  exact aux h2
 | tup l=>exact absurd rfl (ht l)
def boxK (s:St) (x:AV) (k:AV→St→List Nat→Prop):Prop:=
 match x with
 | .tup _=>False
 | x=>s.use fun e h n=>k (.one (.ptr n 0)) ⟨e,(n,some (.cells x.cells))::h,n+1⟩ []
theorem box_spec (h:Sat G φ s a w) {e:TypeId} {x:AV} {v:Value} {k:AV→St→List Nat→Prop} (hk:boxK s x k) (hv:x.relR (CV.rel w (G.im s φ) φ s.ln s.nx) v) :
  ∃ u w',(Instr.box e v).run P w = .ok u w'∧Done G φ s a w k u w':=by
 have hc:(∀ l,x≠.tup l)∧k (.one (.ptr s.nx 0)) (s.grown none (.cells x.cells)) []:=by
  unfold boxK at hk
  simp only [St.use_eq,Ls] at hk
  split at hk
  ·exact hk.elim
  ·rename_i hx;exact ⟨hx,hk⟩
 obtain ⟨h1,h2⟩:=AV.cells_rel (fun _ _=>CV.oneCell) hv hc.1
 refine ⟨.pointer (some ⟨w.heap.size,0,none⟩),w.alloc (.cells v.cells e),?_,_,_,_,_,hc.2,h.new_cells (vs:=v.cells.toList) e h1,?_,eff_alloc h _ _ _,J3 _ _ _⟩
 ·simp [Instr.box,newVar,newRow]
 ·exact ⟨by rw [G1];omega,w.heap.size,0,Phi.set_same _ _ _,rfl⟩
def allocK (τ:TE) (e:TypeId) (s:St) (k:AV→St→List Nat→Prop):Prop:=
 match lk τ e with
 | some i=>tk i.size (i.zero.cells.toList.map Lj) (fun cs=>match Nat.beq i.zero.cells.toList.length i.size with
  | true=>s.use fun e h n=>k (.one (.ptr n 0)) ⟨e,(n,some (.cells cs))::h,n+1⟩ []
  | false=>False)
 | none=>False
theorem alloc_spec (hτ:τ.Ok P) (h:Sat G φ s a w) {e:TypeId} {k:AV→St→List Nat→Prop} (hk:allocK τ e s k) :
  ∃ u w',(Instr.alloc e true (.tuple #[])).run P w = .ok u w'∧Done G φ s a w k u w':=by
 unfold allocK at hk
 simp only [St.use_eq,Ls] at hk
 split at hk
 ·rename_i i hi
  obtain ⟨h1,h2⟩:=tk_spec _ _ _ hk
  split at h2
  ·rename_i hl
   have hl:=Nat.eq_of_beq_eq_true hl
   rw [List.take_of_length_le (by simpa using Nat.le_of_eq hl)] at h2
   refine ⟨.pointer (some ⟨w.heap.size,0,none⟩),w.alloc (.cells i.zero.cells e),?_,_,_,_,_,h2,h.new_cells (vs:=i.zero.cells.toList) e (Jr (hτ e i hi).oc),?_,eff_alloc h _ _ _,J3 _ _ _⟩
   ·simp [Instr.alloc,zero_run hτ hi,newVar,newRow]
   ·exact ⟨by rw [G1];omega,w.heap.size,0,Phi.set_same _ _ _,rfl⟩
  ·exact h2.elim
 ·exact hk.elim
end
end Go.AM
