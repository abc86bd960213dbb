
import Derived.Test.YtokgamncgleelaaGreatAmR
set_option linter.unusedVariables false
set_option linter.unusedSimpArgs false
namespace Go.AM
inductive OT where
 | done
 | take (i:Nat) (t:OT)
 | alt (i:Nat) (t u:OT)
def remN (i:Nat):List Nat→List Nat
 | []=>[]
 | j::r=>match Nat.beq i j with
  | true=>remN i r
  | false=>j::remN i r
theorem mem_remN {i j:Nat}:∀ {l:List Nat},j ∈ remN i l↔j≠i∧j ∈ l
 | []=>by simp [remN]
 | x::r=>by
  simp only [remN]
  split
  ·rename_i h
   have:=Nat.eq_of_beq_eq_true h
   subst this
   rw [mem_remN]
   simp only [List.mem_cons]
   exact ⟨fun ⟨a,b⟩=>⟨a,.inr b⟩,fun ⟨a,b⟩=>⟨a,b.resolve_left a⟩⟩
  ·rename_i h
   have hne:i≠x:=fun e=>by subst e;simp at h
   simp only [List.mem_cons,mem_remN]
   refine ⟨fun h=>h.elim (fun e=>⟨fun e'=>hne (e'.symm.trans e),.inl e⟩) (fun h=>⟨h.1,.inr h.2⟩),fun ⟨a,b⟩=>b.imp id (fun b=>⟨a,b⟩)⟩
theorem remN_len {i:Nat}:∀ {l:List Nat},(remN i l).length≤l.length
 | []=>by simp [remN]
 | x::r=>by
  simp only [remN]
  have:=remN_len (i:=i) (l:=r)
  split <;> simp <;> omega
theorem remN_lt {i:Nat}:∀ {l:List Nat},i ∈ l→(remN i l).length<l.length
 | [],h=>by simp at h
 | x::r,h=>by
  simp only [remN]
  have h0:=remN_len (i:=i) (l:=r)
  split
  ·simp;omega
  ·rename_i hne
   have:i≠x:=fun e=>by subst e;simp at hne
   have:=remN_lt ((List.mem_cons.1 h).resolve_left this)
   simp;omega
def lkL (m:List (Nat×List Nat)) (i:Nat):List Nat:=match lk m i with
 | some l=>l
 | none=>[]
def depsB (o:Oper) (todo:List Nat):Bool:=Me (fun e:Edge=>!(Region.binds .any e)||!(memb e.on todo)) o.after.toList
def edgeB (o:Oper) (i:Nat):Bool:=!(Me (fun e:Edge=>!(Region.binds .any e)||!(Nat.beq e.on i)) o.after.toList)
def liveB (s:St) (id:Nat):Bool:=match s.at id with
 | some ch=>ch.live
 | none=>false
def K1 (s:St) (o:Oper):List Nat:=match o.op with
 | .load _ x=>match ev s x with
  | some (.one (.ptr id _))=>match liveB s id with
   | true=>[id]
   | false=>[]
  | some (.one (.ep id _ _ _))=>match liveB s id with
   | true=>[id]
   | false=>[]
  | _=>[]
 | _=>[]
def freeB (all:List Oper) (mods:List (Nat×List Nat)) (i:Nat) (o:Oper) (ids:List Nat) (todo:List Nat):Bool:=
 Me (fun k=>Nat.beq k i||(match all[k]? with
  | some ok=>edgeB ok i||(o.apart all.toArray ok&&Me (fun id=>!(memb id (lkL mods k))) ids)
  | none=>true)) todo
def readyL (all:List Oper) (todo:List Nat):List Nat:=todo.filter fun i=>match all[i]? with
 | some o=>depsB o todo
 | none=>false
def holdB (s:St) (H m:List Nat) (mi:List Nat):Bool:=Me (fun id=>memb id mi||(!(memb id m)&&liveB s id)) H
def vcT (P:Program) (τ:TE) (nt:Nat) (all:List Oper) (mods:List (Nat×List Nat)):OT→Option (List Nat)→List Nat→List Nat→St→(St→Prop)→Prop
 | .done,none,todo,H,s,k=>match todo with
  | []=>k s
  | _=>False
 | .done,some rs,todo,H,s,k=>match rs with
  | []=>True
  | _=>False
 | .take _ _,some _,_,_,_,_=>False
 | .take i t,none,todo,H,s,k=>match memb i todo with
  | true=>nth all i (fun o=>match depsB o todo with
   | true=>guardK all o s
    (fun s=>match freeB all mods i o (K1 s o) todo with
     | true=>vcFl P τ o s (fun v=>putK nt o.dst (some v) s (fun s'=>vcT P τ nt all mods t none (remN i todo) (K1 s o++H) s' k))
     | false=>False)
    (fun s=>match freeB all mods i o [] todo with
     | true=>putK nt o.dst none s (fun s=>vcT P τ nt all mods t none (remN i todo) H s k)
     | false=>False)
   | false=>False)
  | false=>False
 | .alt i t u,rs,todo,H,s,k=>match (match rs with | none=>readyL all todo | some l=>l) with
  | []=>False
  | j::r=>match Nat.beq i j with
   | true=>vcT P τ nt all mods u (some r) todo H s k∧(match memb i todo with
    | true=>nth all i (fun o=>guardK all o s
      (fun s=>vcOp P τ o s (fun v s' m=>match holdB s H m (lkL mods i) with
       | true=>putK nt o.dst v s' (fun s'=>vcT P τ nt all mods t none (remN i todo) H s' k)
       | false=>False))
      (fun s=>putK nt o.dst none s (fun s=>vcT P τ nt all mods t none (remN i todo) H s k)))
    | false=>False)
   | false=>False
section
variable {P:Program} {τ:TE} {G:Ctx} {φ:Phi} {s:St} {a:Act} {w:World} {nt:Nat}
def MM (IM:Nat→Prop) (H:List Nat) (φ:Phi) (mods:List (Nat×List Nat)) (j:Nat) (w w':World):Prop:=
 (∀ b,IM b→w'.heap[b]?=w.heap[b]?)∧∀ id ∈ H,memb id (lkL mods j)=false→∀ b cap,φ id=some (b,cap)→w'.heap[b]?=w.heap[b]?
theorem MM.refl (IM:Nat→Prop) (H:List Nat) (φ:Phi) (mods:List (Nat×List Nat)) (j:Nat) (w:World):MM IM H φ mods j w w:=
 ⟨fun _ _=>rfl,fun _ _ _ _ _ _=>rfl⟩
theorem wpAnyR_mono {md:Region.Mode} {ops:Array Oper} {Q:Exit→Act→World→Prop} {M M':Nat→World→World→Prop} (hM:∀ j w w',M j w w'→M' j w w') :
  ∀ (fuel:Nat) (listed:Array Bool) (a:Act) (w:World),wpAnyR P md ops Q M fuel listed a w→wpAnyR P md ops Q M' fuel listed a w
 | 0,_,_,_,h=>h
 | fuel+1,_,_,_,h=>⟨h.1,fun i hi=>wpOp_mono (fun a' w' h'=>⟨hM _ _ _ h'.1,wpAnyR_mono hM fuel _ a' w' h'.2⟩) (h.2 i hi)⟩
structure Lst (all:List Oper) (listed:Array Bool) (todo:List Nat):Prop where
 size:listed.size=all.length
 iff:∀ i,i<all.length→(listed.getD i false=true↔i ∉ todo)
theorem memb_iff {i:Nat}:∀ {l:List Nat},memb i l=true↔i ∈ l
 | []=>by simp [memb]
 | j::r=>by
  simp only [memb,List.mem_cons]
  split
  ·rename_i h;have:=Nat.eq_of_beq_eq_true h;subst this;simp
  ·rename_i h
   rw [memb_iff]
   refine ⟨.inr,fun h'=>h'.resolve_left (fun e=>by subst e;simp at h)⟩
theorem Lst.no {all:List Oper} {listed:Array Bool} {todo:List Nat} (h:Lst all listed todo) {i:Nat} (hi:i<all.length):listed.getD i true=false↔i ∈ todo:=by
 have h1:=h.iff i hi
 have h2:i<listed.size:=by rw [h.size];exact hi
 simp only [Array.getD,h2,dif_pos] at h1 ⊢
 by_cases hm:i ∈ todo
 ·simp only [hm,iff_true]
  cases hb:listed.getInternal i h2
  ·rfl
  ·exact absurd hm (h1.1 hb)
 ·simp only [hm,iff_false]
  rw [h1.2 hm];simp
theorem Lst.set {all:List Oper} {listed:Array Bool} {todo:List Nat} (h:Lst all listed todo) (i:Nat):Lst all (listed.setIfInBounds i true) (remN i todo):=by
 refine ⟨by simp [h.size],fun j hj=>?_⟩
 by_cases e:i=j
 ·subst e
  have:i<listed.size:=by rw [h.size];exact hj
  simp [mem_remN,this]
 ·rw [_root_.Go.getD_set_ne false e,h.iff j hj,mem_remN]
  constructor
  ·exact fun h1 h2=>h1 h2.2
  ·exact fun h1 h2=>h1 ⟨Ne.symm e,h2⟩
theorem Ks {α:Type} {p:α→Bool}:∀ {l:List α},Me p l=true↔∀ x ∈ l,p x=true
 | []=>by simp [Me]
 | y::l=>by simp [Me,Ks]
theorem Lst.ready {all:List Oper} {listed:Array Bool} {todo:List Nat} (h:Lst all listed todo) (hin:∀ o ∈ all,∀ e ∈ o.after.toList,e.on<all.length) {i:Nat} :
  i ∈ Region.ready .any all.toArray listed↔i ∈ todo∧∃ o,all[i]?=some o∧depsB o todo=true:=by
 rw [mem_ready]
 constructor
 ·rintro ⟨h1,o,h2,h3⟩
  rw [List.getElem?_toArray] at h2
  have hi:=(List.getElem?_eq_some_iff.1 h2).1
  refine ⟨(h.no hi).1 h1,o,h2,?_⟩
  unfold depsB
  rw [Ks]
  intro e he
  have hlt:=hin o (List.mem_of_getElem? h2) e he
  cases hb:Region.binds .any e with
  | false=>rfl
  | true=>
   have:=(h.iff _ hlt).1 (h3 e (by simpa using he) hb)
   simp only [Bool.not_true,Bool.false_or,Bool.not_eq_true']
   cases hm:memb e.on todo with
   | false=>rfl
   | true=>exact absurd (memb_iff.1 hm) this
 ·rintro ⟨h1,o,h2,h3⟩
  have hi:=(List.getElem?_eq_some_iff.1 h2).1
  refine ⟨(h.no hi).2 h1,o,by rw [List.getElem?_toArray];exact h2,fun e he hb=>?_⟩
  have he':e ∈ o.after.toList:=by simpa using he
  have hlt:=hin o (List.mem_of_getElem? h2) e he'
  unfold depsB at h3
  rw [Ks] at h3
  have:=h3 e he'
  rw [hb] at this
  simp only [Bool.not_true,Bool.false_or,Bool.not_eq_true'] at this
  exact (h.iff _ hlt).2 (Ka this)
def edgesB (all:List Oper):Bool:=Me (fun o:Oper=>Me (fun e:Edge=>Nat.blt e.on all.length) o.after.toList) all
def noSelB (all:List Oper):Bool:=Me (fun o:Oper=>match o.op with
 | .select _ _=>false
 | _=>true) all
theorem looks_spec (h:Sat G φ s a w) {o:Oper} {t:TypeId} {x:Operand} (ho:o.op = .load t x) {k:AV→Prop} (hk:vcFl P τ o s k) {H:List Nat} {mods:List (Nat×List Nat)} {j:Nat}
  (hj:Me (fun id=>!(memb id (lkL mods j))) (K1 s o)=true) {w1 w2:World}
  (hM:MM (fun b=>G.im s φ b∧b<w.heap.size) (K1 s o++H) φ mods j w1 w2) :
  ∀ b o',a.eval x = .pointer (some ⟨b,o',none⟩)→w2.heap[b]?=w1.heap[b]?:=by
 intro b o' he
 unfold vcFl at hk
 rw [ho] at hk
 simp only [ev1,evK] at hk
 unfold K1 at hj hM
 rw [ho] at hj hM
 simp only at hj hM
 cases hv:ev s x with
 | none=>rw [hv] at hk;exact hk.elim
 | some av=>
  rw [hv] at hk hj hM
  have hrel:=Lv h hv
  cases av with
  | agg _=>exact hk.elim
  | tup _=>exact hk.elim
  | one y=>
   have key:∀ id cap,φ id=some (b,cap)→(match liveB s id with | true=>[id] | false=>[])=K1 s o→(liveB s id=false→G.im s φ b∧b<w.heap.size)→w2.heap[b]?=w1.heap[b]?:=fun id cap h1 h2 h3=>by
    cases hl:liveB s id with
    | false=>exact hM.1 b (h3 hl)
    | true=>
     rw [hl] at h2
     have e:K1 s o=[id]:=h2.symm
     simp only [K1,ho,hv] at e
     rw [e] at hM hj
     refine hM.2 id (by simp) ?_ b cap h1
     simpa [Me] using hj
   simp only [loadK] at hk
   split at hk
   ·unfold memK at hk
    cases y with
    | ptr id off=>
     obtain ⟨_,b',cap,h1,h2⟩:=hrel
     have e2:=he.symm.trans h2
     simp only [Value.pointer.injEq,Option.some.injEq,Addr.mk.injEq] at e2
     obtain ⟨rfl,_⟩:=e2
     refine key id cap h1 (by simp only [K1,ho,hv]) (fun hl=>?_)
     simp only at hk
     split at hk
     ·rename_i cs hat
      simp [liveB,hat,Chunk.live] at hl
     ·exact hk.elim
    | ep id sz i off=>
     obtain ⟨_,⟨b',cap,h1,h2⟩,hi⟩:=hrel
     have e2:=he.symm.trans h2
     simp only [Value.pointer.injEq,Option.some.injEq,Addr.mk.injEq] at e2
     obtain ⟨rfl,_⟩:=e2
     refine key id cap h1 (by simp only [K1,ho,hv]) (fun hl=>?_)
     simp only at hk
     split at hk
     ·rename_i e t' xs hat
      simp [liveB,hat,Chunk.live] at hl
     ·rename_i e t' xs hat
      have hi:=hi _ (Lr hat)
      rcases (h.heap id _ hat).2 with ⟨h2,_⟩ | ⟨b',cap',h2,h3,h4⟩
      ·rw [h1] at h2;cases h2
      ·rw [h1] at h2;cases h2
       obtain ⟨q1,c,T,z,h5,_⟩:=h4 (fun e=>by rw [e] at hi;simp at hi)
       exact ⟨q1,Jv h5⟩
     ·rename_i e t' xs q cs hat
      simp [liveB,hat,Chunk.live] at hl
     ·exact hk.elim
    | ip t' x' off=>
     obtain ⟨b',o,c,T,z,ds,h1,h2,h3,_⟩:=hrel
     have e2:=he.symm.trans h1
     simp only [Value.pointer.injEq,Option.some.injEq,Addr.mk.injEq] at e2
     obtain ⟨rfl,_⟩:=e2
     exact hM.1 b ⟨h2,Jv h3⟩
    | d _ _=>exact hk.elim
    | osl _=>exact hk.elim
    | wn _ _ _=>exact hk.elim
    | c _=>exact hk.elim
    | emp=>exact hk.elim
   ·exact hk.elim
end
end Go.AM
