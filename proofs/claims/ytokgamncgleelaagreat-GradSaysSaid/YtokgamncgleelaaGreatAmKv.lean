
import Derived.Test.YtokgamncgleelaaGreatAmKh
set_option linter.unusedVariables false
set_option linter.unusedSimpArgs false
namespace Go.AM
section
variable {P:Program} {τ:TE} {G:Ctx} {φ:Phi} {s:St} {a:Act} {w:World}
def isNilB:Option CV→Bool
 | some (.c (.slice none 0 0))=>true
 | _=>false
theorem isNil_rel {cs:List CV} {vs:List Value} {off:Nat} {im:Nat→Prop} {ln:Nat→Option Nat} {nx:Nat} (hn:isNilB cs[off]?=true) (h:All2 (CV.rel w im φ ln nx) cs vs) :
  vs[off]?=some (.slice none 0 0):=by
 cases hc:cs[off]? with
 | none=>rw [hc] at hn;cases hn
 | some x=>
  rw [hc] at hn
  obtain ⟨v,h1,h2⟩:=h.get off x hc
  have hx:x = .c (.slice none 0 0):=by
   unfold isNilB at hn
   split at hn
   ·rename_i e;cases e;rfl
   ·cases hn
  subst hx
  rw [h1,h2.1]
theorem set_rel {cs:List CV} {vs:List Value} {off:Nat} {R:CV→Value→Prop} {y:CV} {v:Value} (h:All2 R cs vs) (hv:vs[off]?=some v) (hy:R y v):All2 R (cs.set off y) vs:=by
 have:=h.set off y v hy
 obtain ⟨hlt,e⟩:=List.getElem?_eq_some_iff.1 hv
 have e2:vs.set off v=vs:=by rw [← e];exact List.set_getElem_self hlt
 rwa [e2] at this
def nilK:List (Nat×Nat×Ty)→St→(St→Prop)→Prop
 | [],s,k=>k s
 | (id,off,t)::r,s,k=>match s.at id with
  | some (.cells cs)=>match isNilB cs[off]? with
   | true=>s.use fun e0 h n=>nilK r ⟨e0,(id,some (.cells (cs.set off (.d (.sl t) []))))::h,n⟩ k
   | false=>False
  | _=>False
theorem nil_spec:∀ (ns:List (Nat×Nat×Ty)) {s:St} (k:St→Prop),Sat G φ s a w→nilK ns s k→∃ s',k s'∧Sat G φ s' a w∧s'.env=s.env∧s'.nx=s.nx
 | [],s,k,h,hk=>⟨s,hk,h,rfl,rfl⟩
 | (id,off,t)::r,s,k,h,hk=>by
  simp only [nilK,St.use_eq] at hk
  split at hk
  ·rename_i cs hat
   split at hk
   ·rename_i hn
    have h2:Sat G φ { s with heap:=(id,some (.cells (cs.set off (.d (.sl t) []))))::s.heap } a w:=h.turn hat rfl rfl rfl rfl rfl rfl (fun _ _=>rfl) (fun hxt=>by
     obtain ⟨b,cap,q1,vs,T,q2,q3⟩:=(h.heap id _ hat).2
     refine ⟨b,cap,q1,vs,T,q2,set_rel (q3.mono (fun _ _=>CV.rel_ext hxt)) (isNil_rel hn q3) ?_⟩
     exact ⟨none,0,rfl,Nat.le_refl _,fun h=>absurd rfl h⟩)
    obtain ⟨s2,k1,k2,k3,k4⟩:=nil_spec r k h2 hk
    exact ⟨s2,k1,k2,k3,k4⟩
   ·exact hk.elim
  ·exact hk.elim
def virtK:List (Nat×Nat×TypeId×Ty)→St→(St→Prop)→Prop
 | [],s,k=>k s
 | (id,off,e,t)::r,s,k=>match s.at id with
  | some (.cells cs)=>match isNilB cs[off]? with
   | true=>s.use fun e0 h n=>virtK r ⟨e0,(id,some (.cells (cs.set off (.osl n))))::(n,some (.arr e t []))::h,n+1⟩ k
   | false=>False
  | _=>False
theorem grow_none (φ:Phi) (s:St) (w:World) (G:Ctx):Grow G φ s w w none none:=⟨rfl,rfl,rfl,Nat.le_refl _,fun _ _ _=>rfl,fun _ _ e=>by cases e⟩
theorem virt_spec:∀ (ns:List (Nat×Nat×TypeId×Ty)) {s:St} {φ:Phi} (k:St→Prop),Sat G φ s a w→virtK ns s k→
  ∃ s' φ',k s'∧Sat G φ' s' a w∧s'.env=s.env∧Ext G s s' φ φ' w w∧(∀ i ch,i<s.nx→s'.at i=some ch→ch.live=true→∃ ch',s.at i=some ch'∧ch'.live=true)∧∀ i,s.nx≤i→i<s'.nx→φ' i=none
 | [],s,φ,k,h,hk=>⟨s,φ,hk,h,rfl,⟨Nat.le_refl _,fun _ _=>rfl,fun _ _ _ h=>h,fun b hb _=>⟨hb,rfl⟩⟩,fun i ch _ h1 h2=>⟨ch,h1,h2⟩,fun i h1 h2=>by omega⟩
 | (id,off,e,t)::r,s,φ,k,h,hk=>by
  simp only [virtK,St.use_eq] at hk
  split at hk
  ·rename_i cs hat
   split at hk
   ·rename_i hn
    have hg:=grow_none φ s w G
    have hx:=h.grown_ext (ch:=.arr e t []) (fun _ e=>by cases e) hg
    have h1:Sat G (φ.set s.nx none) (s.grown none (.arr e t [])) a w:=h.grow (fun _ e=>by cases e) hg (fun _ _ _ e=>by cases e) (.inl ⟨Phi.set_same _ _ _,rfl⟩)
    have hid:=h.at_lt hat
    have hat1:(s.grown none (.arr e t [])).at id=some (.cells cs):=by
     rw [Jl,if_neg (by omega),if_neg (by simp)];exact hat
    have h2:Sat G (φ.set s.nx none) { (s.grown none (.arr e t [])) with heap:=(id,some (.cells (cs.set off (.osl s.nx))))::(s.grown none (.arr e t [])).heap } a w:=h1.turn hat1 rfl rfl rfl rfl rfl rfl (fun _ _=>rfl) (fun hxt=>by
     obtain ⟨b,cap,q1,vs,T,q2,q3⟩:=(h1.heap id _ hat1).2
     refine ⟨b,cap,q1,vs,T,q2,set_rel (q3.mono (fun _ _=>CV.rel_ext hxt)) (isNil_rel hn q3) ⟨by rw [G1];omega,rfl,fun n hn'=>.inr ⟨Phi.set_same _ _ _,?_,rfl⟩⟩⟩
     have hne:id≠s.nx:=by omega
     simp only [St.ln,Jf,if_neg hne] at hn'
     have:(s.grown none (.arr e t [])).at s.nx=some (.arr e t []):=by rw [Jl];simp
     rw [this] at hn'
     simpa [Chunk.len] using hn'.symm)
    obtain ⟨s2,φ2,k1,k2,k3,k4,k5,k6⟩:=virt_spec r k h2 hk
    refine ⟨s2,φ2,k1,k2,k3,(hx.trans (ext_turn (ch':=.cells (cs.set off (.osl s.nx))) h1 hat1 rfl rfl (fun _ _=>rfl))).trans k4,fun i ch hi h3 h4=>?_,fun i hi hi2=>?_⟩
    ·obtain ⟨c1,c2,c3⟩:=k5 i ch (Nat.lt_succ_of_lt hi) h3 h4
     rw [Jf] at c2
     by_cases he:id=i
     ·subst he;exact ⟨_,hat,rfl⟩
     ·rw [if_neg he,Jl,if_neg (by omega),if_neg (by simp)] at c2
      exact ⟨c1,c2,c3⟩
    ·by_cases he:i=s.nx
     ·subst he
      rw [k4.phi _ (Nat.lt_succ_self _)]
      exact Phi.set_same _ _ _
     ·exact k6 i (by show s.nx+1≤i;omega) hi2
   ·exact hk.elim
  ·exact hk.elim
def Lg (n:Nat):List Nat→List Nat
 | []=>[]
 | i::r=>match Nat.blt i n with
  | true=>i::Lg n r
  | false=>Lg n r
theorem mem_belowL {n i:Nat}:∀ {l:List Nat},i ∈ Lg n l↔i ∈ l∧i<n
 | []=>by simp [Lg]
 | j::r=>by
  simp only [Lg]
  cases hb:Nat.blt j n with
  | true=>
   have:j<n:=by simpa [Nat.blt_eq] using hb
   simp only [List.mem_cons,mem_belowL (l:=r)]
   refine ⟨fun h=>h.elim (fun e=>⟨.inl e,by omega⟩) (fun h=>⟨.inr h.1,h.2⟩),fun h=>h.1.imp id (fun h1=>⟨h1,h.2⟩)⟩
  | false=>
   have:¬j<n:=by intro h;rw [← Nat.blt_eq] at h;rw [h] at hb;cases hb
   simp only [List.mem_cons,mem_belowL (l:=r)]
   refine ⟨fun h=>⟨.inr h.1,h.2⟩,fun h=>⟨h.1.resolve_left (fun e=>by omega),h.2⟩⟩
end
end Go.AM
