
import Derived.Test.YtokgamncgleelaaGreatAmS
set_option linter.unusedVariables false
set_option linter.unusedSimpArgs false
namespace Go.AM
section
variable {P:Program} {τ:TE} {G:Ctx} {φ:Phi} {s:St} {a:Act} {w:World} {nt:Nat}
theorem Kr {G:Ctx} {s s':St} {φ:Phi} (h:s'.heap=s.heap):G.im s' φ=G.im s φ:=by
 have:s'.at=s.at:=by funext i;simp only [St.at,h]
 funext b
 simp only [Ctx.im,St.liveAt,this]
theorem liveB_spec {s:St} {id:Nat} (h:liveB s id=true):∃ ch,s.at id=some ch∧ch.live=true:=by
 unfold liveB at h
 split at h
 ·rename_i ch hc;exact ⟨ch,hc,h⟩
 ·cases h
theorem MM_of_eff (h:Sat G φ s a w) {s':St} {φ':Phi} {w':World} {m:List Nat} (he:Eff G s s' φ φ' w w' m) {IM:Nat→Prop} {H:List Nat} {mods:List (Nat×List Nat)} {i:Nat}
  (hIM:∀ b,IM b→G.im s φ b∧b<w.heap.size) (hh:holdB s H m (lkL mods i)=true):MM IM H φ mods i w w':=by
 refine ⟨fun b hb=>(he.kept b (hIM b hb).1 (hIM b hb).2).2,fun id hid hm b cap hb=>?_⟩
 unfold holdB at hh
 rw [Ks] at hh
 have h1:=hh id hid
 rw [hm] at h1
 simp only [Bool.false_or,Bool.and_eq_true,Bool.not_eq_true'] at h1
 obtain ⟨ch,hc,hl⟩:=liveB_spec h1.2
 refine he.block b (h.own id ch b cap hc hl hb).1 (fun id2 h2 cap2 e=>?_)
 obtain ⟨ch2,hc2,hl2⟩:=he.live id2 h2
 have:=h.sep id id2 ch ch2 b cap cap2 hc hc2 hl hl2 hb e
 subst this
 exact Ka h1.1 h2
theorem MM_phi {IM:Nat→Prop} {H:List Nat} {φ φ':Phi} {mods:List (Nat×List Nat)} (h:∀ id ∈ H,φ' id=φ id) (j:Nat) (w w':World) (hm:MM IM H φ' mods j w w'):MM IM H φ mods j w w':=
 ⟨hm.1,fun id hid hmm b cap hb=>hm.2 id hid hmm b cap (by rw [h id hid];exact hb)⟩
theorem looks_lt (h:Sat G φ s a w) (o:Oper):∀ id ∈ K1 s o,id<s.nx:=by
 intro id hid
 have key:∀ id',id ∈ (match liveB s id' with | true=>[id'] | false=>[])→id<s.nx:=fun id' hm=>by
  split at hm
  ·rename_i hl
   simp only [List.mem_singleton] at hm
   subst hm
   obtain ⟨ch,hc,_⟩:=liveB_spec hl
   exact (h.heap _ ch hc).1
  ·simp at hm
 unfold K1 at hid
 split at hid
 ·split at hid
  ·exact key _ hid
  ·exact key _ hid
  ·simp at hid
 ·simp at hid
theorem beqF {i j:Nat} (h:i≠j):Nat.beq i j=false:=by
 cases hb:Nat.beq i j with
 | false=>rfl
 | true=>exact absurd (Nat.eq_of_beq_eq_true hb) h
theorem vcT_wp (hτ:τ.Ok P) {all:List Oper} (hin:edgesB all=true) (hsel:noSelB all=true) {mods:List (Nat×List Nat)} {Q:Exit→Act→World→Prop} (hQ:∀ c a w,¬Q (.panic c) a w) {k:St→Prop}
  (hK:∀ s φ a w,k s→Sat G φ s a w→nt≤a.tmps.size→Q .normal a w) :
  ∀ (t:OT) (rs:Option (List Nat)) (todo H:List Nat) (s:St) (φ:Phi) (a:Act) (w:World) (fuel:Nat) (listed:Array Bool) (IM:Nat→Prop),
   Sat G φ s a w→nt≤a.tmps.size→Lst all listed todo→todo.length≤fuel→(∀ b,IM b→G.im s φ b∧b<w.heap.size)→(∀ id ∈ H,id<s.nx)→vcT P τ nt all mods t rs todo H s k→
   (rs=none→wpAnyR P .any all.toArray Q (MM IM H φ mods) fuel listed a w)∧
   (∀ l,rs=some l→∀ i ∈ l,1≤fuel→wpOp P all.toArray Q i (fun a' w'=>MM IM H φ mods i w w'∧wpAnyR P .any all.toArray Q (MM IM H φ mods) (fuel-1) (listed.setIfInBounds i true) a' w') a w):=by
 have hin':∀ o ∈ all,∀ e ∈ o.after.toList,e.on<all.length:=fun o ho e he=>by
  unfold edgesB at hin
  rw [Ks] at hin
  have h1:=hin o ho
  rw [Ks] at h1
  have:=h1 e he
  rwa [Nat.blt_eq] at this
 have hsel':∀ (j:Nat) (o:Oper) cs b,all.toArray[j]?=some o→o.op≠.select cs b:=fun j o cs b ho e=>by
  rw [List.getElem?_toArray] at ho
  unfold noSelB at hsel
  rw [Ks] at hsel
  have:=hsel o (List.mem_of_getElem? ho)
  rw [e] at this
  cases this
 have hQ':∀ (d:Option Tmp) (v:Value) (c:List PanicEntry) (a:Act) (w:World),Q (.panic c) (a.put d v) w→Q (.panic c) a w:=fun d v c a w h=>(hQ c _ w h).elim
 intro t
 induction t with
 | done=>
  intro rs todo H s φ a w fuel listed IM h hn hl hf hIM hH hk
  cases rs with
  | none=>
   refine ⟨fun _=>?_,fun l e=>by cases e⟩
   simp only [vcT] at hk
   split at hk
   ·have hr:Region.ready .any all.toArray listed=[]:=by
     apply List.eq_nil_iff_forall_not_mem.2
     intro i hi
     have:=(hl.ready hin').1 hi
     simp at this
    cases fuel with
    | zero=>exact ⟨hr,hK s φ a w hk h hn⟩
    | succ fuel=>exact ⟨fun _=>hK s φ a w hk h hn,fun i hi=>by rw [hr] at hi;cases hi⟩
   ·exact hk.elim
  | some rs=>
   refine ⟨fun e=>(by cases e),fun l e i hi=>?_⟩
   cases e
   simp only [vcT] at hk
   split at hk
   ·cases hi
   ·exact hk.elim
 | take i t ih=>
  intro rs todo H s φ a w fuel listed IM h hn hl hf hIM hH hk
  cases rs with
  | some rs=>exact hk.elim
  | none=>
   refine ⟨fun _=>?_,fun l e=>by cases e⟩
   simp only [vcT] at hk
   split at hk
   ·rename_i hm
    have hmem:=memb_iff.1 hm
    obtain ⟨o,ho,hk⟩:=Jz _ _ _ hk
    split at hk
    ·rename_i hd
     have hr:i ∈ Region.ready .any all.toArray listed:=(hl.ready hin').2 ⟨hmem,o,ho,hd⟩
     have ho':all.toArray[i]?=some o:=by rw [List.getElem?_toArray];exact ho
     obtain ⟨fuel,rfl⟩:∃ f,fuel=f+1:=by
      cases fuel with
      | zero=>
       have h0:todo.length=0:=by omega
       rw [List.eq_nil_of_length_eq_zero h0] at hmem
       cases hmem
      | succ f=>exact ⟨f,rfl⟩
     have hlen:(remN i todo).length≤fuel:=by have:=remN_lt hmem;omega
     have hfr:∀ ids,freeB all mods i o ids todo=true→∀ j oj,all.toArray[j]?=some oj→j≠i→listed.getD j true=false→(∀ e ∈ oj.after,Region.binds .any e=true→e.on≠i)→
       o.apart all.toArray oj=true∧Me (fun id=>!(memb id (lkL mods j))) ids=true:=fun ids hb j oj hj hji hun hno=>by
      rw [List.getElem?_toArray] at hj
      have hjl:=(List.getElem?_eq_some_iff.1 hj).1
      unfold freeB at hb
      rw [Ks] at hb
      have h1:=hb j ((hl.no hjl).1 hun)
      have h2:edgeB oj i=false:=by
       unfold edgeB
       simp only [Bool.not_eq_false']
       rw [Ks]
       intro e he
       cases hbd:Region.binds .any e with
       | false=>rfl
       | true=>
        have:=beqF (hno e (by simpa using he) hbd)
        simp [this]
      have h3:Nat.beq j i=false:=beqF hji
      rw [hj,h3] at h1
      simp only [h2,Bool.false_or,Bool.and_eq_true] at h1
      exact h1
     rcases guardK_spec h hk with ⟨hw,s1,h1,h2,e1,e2⟩ | ⟨hw,s1,h1,h2,e1,e2⟩
     ·split at h1
      ·rename_i hfree
       obtain ⟨v,u,q1,q2,q3⟩:=vcFl_spec hτ h2 h1
       obtain ⟨s2,j1,j2,j3,j4,j5⟩:=Ll (v:=some v) h2 hn q1 q2
       have hH2:∀ id ∈ K1 s1 o++H,id<s2.nx:=fun id hid=>by
        rw [j5]
        rcases List.mem_append.1 hid with hid | hid
        ·exact looks_lt h2 o id hid
        ·rw [e2];exact hH id hid
       have hrec:=(ih none (remN i todo) (K1 s1 o++H) s2 φ (a.put o.dst u) w fuel (listed.setIfInBounds i true) (fun b=>G.im s1 φ b∧b<w.heap.size) j2 j3 (hl.set i) hlen
        (fun b hb=>by rw [Kr (s:=s1) j4];exact hb) hH2 j1).1 rfl
       have hy:YieldsIf P all.toArray (fun w'=>∀ t x,o.op = .load t x→∀ b o',a.eval x = .pointer (some ⟨b,o',none⟩)→w'.heap[b]?=w.heap[b]?) o u a:=.inl ⟨hw,fun w' hs=>q3 w' hs⟩
       have:=wpAnyR_first (M:=MM (fun b=>G.im s1 φ b∧b<w.heap.size) (K1 s1 o++H) φ mods) ho' hsel' (hQ' _ _) (fun w=>MM.refl _ _ _ _ _ w) fuel listed a w
        (fun j oj hj hji hun hno=>⟨(hfr _ hfree j oj hj hji hun hno).1,fun w1 w2 hs hM t x hx b o' hb=>by
         rw [looks_spec h2 hx h1 (hfr _ hfree j oj hj hji hun hno).2 hM b o' hb]
         exact hs t x hx b o' hb⟩) hr hy (fun _ _ _ _ _ _=>rfl) hrec
       refine wpAnyR_mono (fun j w1 w2 hM=>⟨fun b hb=>hM.1 b (by rw [Kr e1];exact hIM b hb),fun id hid hmm b cap hb=>hM.2 id (List.mem_append_right _ hid) hmm b cap hb⟩) _ _ _ _ this
      ·exact h1.elim
     ·split at h1
      ·rename_i hfree
       obtain ⟨s2,j1,j2,j3,j4,j5⟩:=Ll (u:=undef) h2 hn h1 rfl
       have hrec:=(ih none (remN i todo) H s2 φ (a.put o.dst undef) w fuel (listed.setIfInBounds i true) IM j2 j3 (hl.set i) hlen
        (fun b hb=>by rw [Kr (s:=s1) j4,Kr e1];exact hIM b hb) (fun id hid=>by rw [j5,e2];exact hH id hid) j1).1 rfl
       have hy:YieldsIf P all.toArray (fun w'=>True) o undef a:=.inr ⟨hw,rfl⟩
       exact wpAnyR_first (M:=MM IM H φ mods) ho' hsel' (hQ' _ _) (fun w=>MM.refl _ _ _ _ _ w) fuel listed a w
        (fun j oj hj hji hun hno=>⟨(hfr _ hfree j oj hj hji hun hno).1,fun _ _ _ _=>trivial⟩) hr hy trivial hrec
      ·exact h1.elim
    ·exact hk.elim
   ·exact hk.elim
 | alt i t u iht ihu=>
  intro rs todo H s φ a w fuel listed IM h hn hl hf hIM hH hk
  have main:∀ l:List Nat,(match l with
    | []=>False
    | j::r=>match Nat.beq i j with
     | true=>vcT P τ nt all mods u (some r) todo H s k∧(match memb i todo with
      | true=>nth all i (fun o=>guardK all o s
        (fun s=>vcOp P τ o s (fun v s' m=>match holdB s H m (lkL mods i) with
         | true=>putK nt o.dst v s' (fun s'=>vcT P τ nt all mods t none (remN i todo) H s' k)
         | false=>False))
        (fun s=>putK nt o.dst none s (fun s=>vcT P τ nt all mods t none (remN i todo) H s k)))
      | false=>False)
     | false=>False)→∀ j ∈ l,1≤fuel→wpOp P all.toArray Q j (fun a' w'=>MM IM H φ mods j w w'∧wpAnyR P .any all.toArray Q (MM IM H φ mods) (fuel-1) (listed.setIfInBounds j true) a' w') a w:=by
   intro l hk j hj hf1
   cases l with
   | nil=>cases hj
   | cons j0 r=>
    simp only at hk
    split at hk
    ·rename_i hb
     have:=Nat.eq_of_beq_eq_true hb
     subst this
     obtain ⟨hu,hk⟩:=hk
     by_cases hji:j=i
     ·subst hji
      split at hk
      ·rename_i hm
       have hmem:=memb_iff.1 hm
       obtain ⟨o,ho,hk⟩:=Jz _ _ _ hk
       have ho':all.toArray[j]?=some o:=by rw [List.getElem?_toArray];exact ho
       have hlen:(remN j todo).length≤fuel-1:=by have:=remN_lt hmem;omega
       unfold wpOp
       rw [ho']
       simp only
       rcases guardK_spec h hk with ⟨hw,s1,h1,h2,e1,e2⟩ | ⟨hw,s1,h1,h2,e1,e2⟩
       ·rw [if_pos hw]
        refine .inl (op_wp hτ h2 h1 (fun x w' ⟨v,s',φ',m,k1,k2,k3,k4,k5⟩=>?_))
        dsimp only at k1
        split at k1
        ·rename_i hold
         obtain ⟨s2,j1,j2,j3,j4,j5⟩:=Ll k2 hn k1 k3
         refine ⟨MM_of_eff h2 k4 (fun b hb=>by rw [Kr e1];exact hIM b hb) hold,?_⟩
         have hHs:∀ id ∈ H,id<s1.nx:=fun id hid=>by rw [e2];exact hH id hid
         have hrec:=(iht none (remN j todo) H s2 φ' (a.put o.dst x) w' (fuel-1) (listed.setIfInBounds j true) IM j2 j3 (hl.set j) hlen
          (fun b hb=>by
           rw [Kr (s:=s') j4]
           have hb1:G.im s1 φ b∧b<w.heap.size:=by rw [Kr e1];exact hIM b hb
           exact ⟨(k4.kept b hb1.1 hb1.2).1,Nat.lt_of_lt_of_le hb1.2 k4.size⟩)
          (fun id hid=>by rw [j5];exact Nat.lt_of_lt_of_le (hHs id hid) k4.nx) j1).1 rfl
         exact wpAnyR_mono (fun j w1 w2 hM=>MM_phi (fun id hid=>k4.phi id (hHs id hid)) j w1 w2 hM) _ _ _ _ hrec
        ·exact k1.elim
       ·rw [if_neg (by simp [hw])]
        obtain ⟨s2,j1,j2,j3,j4,j5⟩:=Ll (u:=undef) h2 hn h1 rfl
        exact ⟨MM.refl _ _ _ _ _ w,(iht none (remN j todo) H s2 φ (a.put o.dst undef) w (fuel-1) (listed.setIfInBounds j true) IM j2 j3 (hl.set j) hlen
         (fun b hb=>by rw [Kr (s:=s1) j4,Kr e1];exact hIM b hb) (fun id hid=>by rw [j5,e2];exact hH id hid) j1).1 rfl⟩
      ·exact hk.elim
     ·exact (ihu (some r) todo H s φ a w fuel listed IM h hn hl hf hIM hH hu).2 r rfl j ((List.mem_cons.1 hj).resolve_left hji) hf1
    ·exact hk.elim
  cases rs with
  | some l=>
   refine ⟨fun e=>(by cases e),fun l' e=>?_⟩
   cases e
   exact main l hk
  | none=>
   refine ⟨fun _=>?_,fun l e=>by cases e⟩
   have hm:=main (readyL all todo) hk
   have hrd:∀ i,i ∈ Region.ready .any all.toArray listed→i ∈ readyL all todo:=fun i hi=>by
    obtain ⟨h1,o,h2,h3⟩:=(hl.ready hin').1 hi
    unfold readyL
    rw [List.mem_filter]
    refine ⟨h1,?_⟩
    rw [h2];exact h3
   have hne:readyL all todo≠[]:=by
    intro e
    simp only [vcT] at hk
    rw [e] at hk
    exact hk.elim
   have hsome:∃ i,i ∈ readyL all todo:=List.exists_mem_of_ne_nil _ hne
   obtain ⟨i0,hi0⟩:=hsome
   have hi0':i0 ∈ todo:=(List.mem_filter.1 hi0).1
   have hpos:1≤fuel:=by
    have:=List.length_pos_of_mem hi0'
    omega
   obtain ⟨fuel,rfl⟩:∃ f,fuel=f+1:=⟨fuel-1,by omega⟩
   refine ⟨fun e=>?_,fun i hi=>hm i (hrd i hi) hpos⟩
   exfalso
   obtain ⟨h1,h2⟩:=List.mem_filter.1 hi0
   cases ho:all[i0]? with
   | none=>rw [ho] at h2;cases h2
   | some o=>
    rw [ho] at h2
    have:=(hl.ready hin').2 ⟨h1,o,ho,h2⟩
    rw [e] at this
    cases this
def upTo:Nat→Nat→List Nat
 | _,0=>[]
 | i,n+1=>i::upTo (i+1) n
theorem mem_upTo {j:Nat}:∀ {i n:Nat},j ∈ upTo i n↔i≤j∧j<i+n
 | i,0=>by simp only [upTo,List.not_mem_nil,false_iff];omega
 | i,n+1=>by simp only [upTo,List.mem_cons,mem_upTo];omega
theorem upTo_len:∀ {i n:Nat},(upTo i n).length=n
 | i,0=>rfl
 | i,n+1=>by simp [upTo,upTo_len]
theorem vcT_region (hτ:τ.Ok P) (hm:P.follows .mixedOrders=true) (h:Sat G φ s a w) (hn:nt≤a.tmps.size) {ops:Array Oper} {id:Nat} {mods:List (Nat×List Nat)} {t:OT} (hb:(edgesB ops.toList&&noSelB ops.toList)=true)
  {k:St→Prop} (hk:vcT P τ nt ops.toList mods t none (upTo 0 ops.size) [] s k) {Q:Exit→Act→World→Prop} (hK:∀ s φ a w,k s→Sat G φ s a w→nt≤a.tmps.size→Q .normal a w) :
  (Code.region id ops true).wp P Q a w:=by
 simp only [Bool.and_eq_true] at hb
 refine wp_mono (Q:=fun e a w=>(∀ c,e≠.panic c)∧Q e a w) (wp_region_any hm ?_) (fun e a w q=>q.2)
 have hl:Lst ops.toList (Array.replicate ops.size false) (upTo 0 ops.size):=⟨by simp,fun i hi=>by
  simp only [Array.length_toList] at hi
  simp [mem_upTo,hi]⟩
 have:=(vcT_wp hτ hb.1 hb.2 (mods:=mods) (Q:=fun e a w=>(∀ c,e≠.panic c)∧Q e a w) (fun c a w q=>q.1 c rfl) (fun s φ a w q1 q2 q3=>⟨fun c e=>(by cases e),hK s φ a w q1 q2 q3⟩)
  t none (upTo 0 ops.size) [] s φ a { w with drawn:=w.drawn+1 } ops.size (Array.replicate ops.size false) (fun _=>False) h.drew hn hl (by rw [upTo_len];exact Nat.le_refl _) (fun b hb=>hb.elim) (fun id hid=>by cases hid) hk).1 rfl
 exact wpAny_of_R _ _ _ _ this
end
end Go.AM
