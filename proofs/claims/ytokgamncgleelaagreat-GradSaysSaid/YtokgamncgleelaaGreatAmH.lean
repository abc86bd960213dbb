
import Derived.Test.YtokgamncgleelaaGreatAmG
import Derived.Maps.AppendAt
set_option linter.unusedVariables false
set_option linter.unusedSimpArgs false
namespace Go.AM
section
variable {P:Program} {τ:TE} {G:Ctx} {φ:Phi} {s:St} {a:Act} {w:World}
def goneL:Option Nat→List Nat
 | none=>[]
 | some id=>[id]
theorem app_sat (h:Sat G φ s a w) {gone:Option Nat} {v v':Value} {e:TypeId} {t:Ty} {xs':List t.D} {cells:List Value} {w':World}
  (hgone:∀ id,gone=some id→(∃ e' t' xs,s.at id=some (.arr e' t' xs))∧((φ id=none∧v = .slice none 0 0)∨∃ b cap n,φ id=some (b,cap)∧v = .slice (some ⟨b,0,none⟩) n cap))
  (hnone:gone=none→v = .slice none 0 0)
  (hown:w'.ownsRow 0 e t.n v' xs'.length cells) (hg:w.grownBy w' v.ownBlock) (hblk:v'.ownBlock=v.ownBlock∨v'.ownBlock=some w.heap.size)
  (hel:∀ i (hi:i<xs'.length),t.rel w (G.im s φ) xs'[i] ((cells.drop (i*t.n)).take t.n)) :
  ∃ p,Sat G (φ.set s.nx p) (s.grown gone (.arr e t xs')) a w'∧
   CV.rel w' (G.im (s.grown gone (.arr e t xs')) (φ.set s.nx p)) (φ.set s.nx p) (s.grown gone (.arr e t xs')).ln (s.grown gone (.arr e t xs')).nx (.osl s.nx) v'∧
   Eff G s (s.grown gone (.arr e t xs')) φ (φ.set s.nx p) w w' (goneL gone):=by
 have hrow:∀ b,v.ownBlock=some b→∃ id cap,gone=some id∧φ id=some (b,cap):=by
  intro b hb
  cases gone with
  | none=>rw [hnone rfl] at hb;cases hb
  | some id=>
   rcases (hgone id rfl).2 with ⟨_,e1⟩ | ⟨b',cap,n,h1,e1⟩
   ·rw [e1] at hb;cases hb
   ·rw [e1] at hb;cases hb;exact ⟨id,cap,rfl,h1⟩
 have hgo:∀ id,gone=some id→∃ c,s.at id=some c∧c.live=true:=fun id e1=>let ⟨⟨e',t',xs,h1⟩,_⟩:=hgone id e1;⟨_,h1,rfl⟩
 have hfr:∀ id b cap,gone=some id→φ id=some (b,cap)→G.w0.heap.size≤b∨G.mine b:=fun id b cap e1 e2=>by
  obtain ⟨c,h1,h2⟩:=hgo id e1
  exact (h.own id c b cap h1 h2 e2).2
 have mkG:∀ p,(∀ b cap,p=some (b,cap)→b<w'.heap.size∧(w.heap.size≤b∨∃ id cap',gone=some id∧φ id=some (b,cap')))→Grow G φ s w w' gone p:=fun p hp=>
  ⟨hg.os,hg.tape,hg.output,hg.size,fun b hb hne=>hg.block b hb (fun e1=>by
   obtain ⟨id,cap,e2,e3⟩:=hrow b e1.symm
   exact hne id cap e2 e3),hp⟩
 have mkE:∀ p,Grow G φ s w w' gone p→Eff G s (s.grown gone (.arr e t xs')) φ (φ.set s.nx p) w w' (goneL gone):=fun p hG=>
  ⟨(h.grown_ext (ch:=.arr e t xs') hgo hG).kept,fun id hid=>by
   cases gone with
   | none=>cases hid
   | some i=>simp only [goneL,List.mem_singleton] at hid;subst hid;exact hgo id rfl,
  by rw [G1];omega,fun i hi=>Phi.set_lt φ p hi,hg.size,fun b hb hne=>hg.block b hb (fun e1=>by
   obtain ⟨id,cap,e2,e3⟩:=hrow b e1.symm
   exact hne id (by rw [e2];simp [goneL]) cap e3)⟩
 have hln:(s.grown gone (.arr e t xs')).ln s.nx=some xs'.length:=by simp [St.ln,Jl,Chunk.len]
 rcases hown.2 with ⟨rfl,hn⟩ | ⟨g,cap,cur,rfl,_,hgg,hnc,hcm,hcs,htake⟩
 ·refine ⟨none,h.grow hgo (mkG none (fun _ _ e=>by cases e)) hfr (.inl ⟨Phi.set_same _ _ _,List.eq_nil_of_length_eq_zero hn⟩),?_,mkE none (mkG none (fun _ _ e=>by cases e))⟩
  refine ⟨by rw [G1];omega,rfl,fun n hn'=>.inr ⟨Phi.set_same _ _ _,?_,rfl⟩⟩
  rw [hln] at hn'
  cases hn'
  exact hn
 ·have hp:∀ b c,some (g,cap)=some (b,c)→b<w'.heap.size∧(w.heap.size≤b∨∃ id cap',gone=some id∧φ id=some (b,cap')):=fun b c e1=>by
   cases e1
   refine ⟨Jv hgg,?_⟩
   rcases hblk with e2 | e2
   ·exact .inr (hrow g e2.symm)
   ·simp only [Value.ownBlock,Option.some.injEq] at e2
    exact .inl (Nat.le_of_eq e2.symm)
  have hG:=mkG (some (g,cap)) hp
  have hx:=h.grown_ext (ch:=.arr e t xs') hgo hG
  refine ⟨some (g,cap),h.grow hgo hG hfr (.inr ⟨g,cap,Phi.set_same _ _ _,hnc,hcm,cur,hgg,hcs,fun i hi=>?_⟩),?_,mkE _ hG⟩
  ·have:=Ty.rel_mono hx.kept t _ _ (hel i hi)
   have hl:=Ty.rel_len t _ _ this
   refine ⟨_,this,hl,fun j hj=>?_⟩
   rw [hl] at hj
   simp only [List.getElem_take,List.getElem_drop]
   have hlt:i*t.n+j<xs'.length*t.n:=by
    have:(i+1)*t.n≤xs'.length*t.n:=Nat.mul_le_mul_right _ hi
    rw [Nat.add_mul] at this;omega
   have hcl:cells.length=xs'.length*t.n:=hown.1
   have:cells[i*t.n+j]?=cur.toList[i*t.n+j]?:=by
    rw [← htake,List.getElem?_take,if_pos hlt]
   rw [List.getElem?_eq_getElem (by omega)] at this
   rw [← Array.getElem?_toList,← this]
  ·refine ⟨by rw [G1];omega,rfl,fun n hn'=>.inl ⟨g,cap,Phi.set_same _ _ _,?_⟩⟩
   rw [hln] at hn'
   cases hn'
   rfl
theorem Sat.ownsRow (h:Sat G φ s a w) {id:Nat} {e:TypeId} {t:Ty} {xs:List t.D} {v:Value}
  (hat:s.at id=some (.arr e t xs)) (hv:CV.rel w (G.im s φ) φ s.ln s.nx (.osl id) v) :
  ∃ cells,w.ownsRow 0 e t.n v xs.length cells∧(∀ i (hi:i<xs.length),t.rel w (G.im s φ) xs[i] ((cells.drop (i*t.n)).take t.n))∧
   ((φ id=none∧v = .slice none 0 0)∨∃ b cap n,φ id=some (b,cap)∧v = .slice (some ⟨b,0,none⟩) n cap):=by
 rcases (h.osl_list hat hv).2 with ⟨h1,rfl,rfl⟩ | ⟨b,cap,h1,rfl⟩
 ·exact ⟨[],⟨by simp,.inl ⟨rfl,rfl⟩⟩,fun i hi=>by simp at hi,.inl ⟨h1,rfl⟩⟩
 ·rcases (h.heap id _ hat).2 with ⟨h2,_⟩ | ⟨b',cap',h2,h3,h3',c,h4,h5,h6⟩
  ·rw [h1] at h2;cases h2
  ·rw [h1] at h2;cases h2
   have hle:xs.length*t.n≤c.toList.length:=by
    rw [show c.toList.length=cap*t.n from h5];exact Nat.mul_le_mul_right _ h3
   refine ⟨c.toList.take (xs.length*t.n),⟨by rw [List.length_take];omega,.inr ⟨b,cap,c,rfl,Nat.zero_le _,h4,h3,h3',h5,rfl⟩⟩,fun i hi=>?_,.inr ⟨b,cap,_,h1,rfl⟩⟩
   obtain ⟨ds,k1,k2,k3⟩:=h6 i hi
   have hlt:i*t.n+t.n≤xs.length*t.n:=by
    have:(i+1)*t.n≤xs.length*t.n:=Nat.mul_le_mul_right _ hi
    rw [Nat.add_mul] at this;omega
   have:((c.toList.take (xs.length*t.n)).drop (i*t.n)).take t.n=ds:=by
    apply List.ext_getElem?
    intro j
    by_cases hj:j<t.n
    ·rw [List.getElem?_take,if_pos hj,List.getElem?_drop,List.getElem?_take,if_pos (by omega),Array.getElem?_toList,k3 j (by omega)]
     simp
    ·rw [List.getElem?_take,if_neg hj,List.getElem?_eq_none (by omega)]
   rw [this];exact k1
theorem row_cells {w:World} {im:Nat→Prop} {t:Ty} {ys:List t.D} {b o:Nat} (h:Row w b o t.n (fun x ds=>t.rel w im x ds) ys) :
  ∃ news:List Value,news.length=ys.length*t.n∧(∀ j u,news[j]?=some u→w.cell? ⟨b,o+j,none⟩=some u)∧(∀ u ∈ news,u.oneCell'=true)∧
   ∀ i (hi:i<ys.length),t.rel w im ys[i] ((news.drop (i*t.n)).take t.n):=by
 obtain ⟨c,T,z,h1,h2⟩:=h
 have aux:∀ m,m≤ys.length→∃ news:List Value,news.length=m*t.n∧(∀ j u,news[j]?=some u→c[o+j]?=some u)∧(∀ u ∈ news,u.oneCell'=true)∧
   ∀ i (hi:i<m) (hi':i<ys.length),t.rel w im ys[i] ((news.drop (i*t.n)).take t.n):=by
  intro m
  induction m with
  | zero=>intro _;exact ⟨[],by simp,fun j u hu=>by simp at hu,fun u hu=>by simp at hu,fun i hi=>by omega⟩
  | succ m ih=>
   intro hm
   obtain ⟨news,k1,k2,k3,k4⟩:=ih (by omega)
   obtain ⟨ds,j1,j2,j3⟩:=h2 m (by omega)
   refine ⟨news++ds,by rw [List.length_append,k1,j2,Nat.add_mul];omega,fun j u hu=>?_,fun u hu=>?_,fun i hi hi'=>?_⟩
   ·by_cases hj:j<news.length
    ·rw [List.getElem?_append_left hj] at hu;exact k2 j u hu
    ·rw [List.getElem?_append_right (by omega)] at hu
     obtain ⟨hj',rfl⟩:=List.getElem?_eq_some_iff.1 hu
     rw [← j3 _ hj',k1]
     congr 1
     omega
   ·rcases List.mem_append.1 hu with hu | hu
    ·exact k3 u hu
    ·exact Ty.rel_oneCell t _ _ j1 u hu
   ·by_cases him:i<m
    ·have hlt:i*t.n+t.n≤news.length:=by
      have:(i+1)*t.n≤m*t.n:=Nat.mul_le_mul_right _ him
      rw [Nat.add_mul] at this;omega
     rw [List.drop_append_of_le_length (by omega),List.take_append_of_le_length (by rw [List.length_drop];omega)]
     exact k4 i him hi'
    ·have:i=m:=by omega
     subst this
     rw [← k1,List.drop_left,← j2,List.take_length]
     exact j1
 obtain ⟨news,k1,k2,k3,k4⟩:=aux ys.length (Nat.le_refl _)
 exact ⟨news,k1,fun j u hu=>by simp [World.cell?,h1,k2 j u hu],k3,fun i hi=>k4 i hi hi⟩
theorem append_rel {w:World} {im:Nat→Prop} {t:Ty} {xs ys:List t.D} {cells news:List Value} (hx:cells.length=xs.length*t.n)
  (h1:∀ i (hi:i<xs.length),t.rel w im xs[i] ((cells.drop (i*t.n)).take t.n)) (h2:∀ i (hi:i<ys.length),t.rel w im ys[i] ((news.drop (i*t.n)).take t.n)) :
  ∀ i (hi:i<(xs++ys).length),t.rel w im (xs++ys)[i] (((cells++news).drop (i*t.n)).take t.n):=by
 intro i hi
 by_cases hlt:i<xs.length
 ·have hle:i*t.n+t.n≤cells.length:=by
   have:(i+1)*t.n≤xs.length*t.n:=Nat.mul_le_mul_right _ hlt
   rw [Nat.add_mul] at this;omega
  rw [List.getElem_append_left hlt,List.drop_append_of_le_length (by omega),List.take_append_of_le_length (by rw [List.length_drop];omega)]
  exact h1 i hlt
 ·rw [List.getElem_append_right (by omega)]
  have:i*t.n=cells.length+(i-xs.length)*t.n:=by
   rw [hx,← Nat.add_mul];congr 1;omega
  rw [this,List.drop_length_add_append]
  exact h2 _ (by rw [List.length_append] at hi;omega)
def grownC (gone:Option Nat) (ch:Chunk) (e:List (Nat×AV)) (h:List (Nat×Option Chunk)) (n:Nat):St:=match gone with
 | none=>⟨e,(n,some ch)::h,n+1⟩
 | some id=>⟨e,(n,some ch)::(id,none)::h,n+1⟩
theorem grownC_eq (s:St) (gone:Option Nat) (ch:Chunk):grownC gone ch s.env s.heap s.nx=s.grown gone ch:=by cases gone <;> rfl
def appC (s:St) (e:TypeId) (t:Ty) (bytes:Nat) (gone:Option Nat) (xs ys:List t.D) (k:AV→St→List Nat→Prop):Prop:=
 (xs.length+ys.length)*bytes≤140737488355328∧s.use fun e0 h n=>k (.one (.osl n)) (grownC gone (.arr e t (xs++ys)) e0 h n) (goneL gone)
def memb (i:Nat):List Nat→Bool
 | []=>false
 | j::r=>match Nat.beq j i with
  | true=>true
  | false=>memb i r
def appK (τ:TE) (T T':TypeId) (s:St) (x y:CV) (k:AV→St→List Nat→Prop):Prop:=
 match Nat.beq T T',lk τ T with
 | true,some i=>match i.desc with
  | .slice e=>match lk τ e with
   | some ie=>match ie.ty,Nat.ble 1 ie.size,Nat.ble 1 ie.bytes with
    | some t,true,true=>viewK s t y (fun ys ids=>match x with
     | .osl id=>match memb id ids,s.at id with
      | false,some (.arr e' t' xs)=>match Nat.beq e' e with
       | true=>Ty.eqK (.sl t) (.sl t') xs (fun xs=>appC s e t ie.bytes (some id) xs ys k)
       | false=>False
      | _,_=>False
     | .c (.slice none 0 0)=>appC s e t ie.bytes none [] ys k
     | _=>False)
    | _,_,_=>False
   | none=>False
  | _=>False
 | _,_=>False
theorem Ka {i:Nat}:∀ {l:List Nat},memb i l=false→i ∉ l
 | [],_,h=>by simp at h
 | j::r,h,hm=>by
  simp only [memb] at h
  split at h
  ·cases h
  ·rename_i hb
   rcases List.mem_cons.1 hm with rfl | hm
   ·simp at hb
   ·exact Ka h hm
theorem appC_spec (hτ:τ.Ok P) (h:Sat G φ s a w) {T e:TypeId} {i ie:TI} {t:Ty} {ty:TypeId} (hi:lk τ T=some i) (hd:i.desc = .slice e) (hie:lk τ e=some ie) (ht:ie.ty=some t) (hsz:1≤ie.size) (hby:1≤ie.bytes)
  {gone:Option Nat} {xs ys:List t.D} {v vy:Value} {k:AV→St→List Nat→Prop} (hk:appC s e t ie.bytes gone xs ys k)
  (hgone:∀ id,gone=some id→(∃ e' t' xs,s.at id=some (.arr e' t' xs))∧((φ id=none∧v = .slice none 0 0)∨∃ b cap n,φ id=some (b,cap)∧v = .slice (some ⟨b,0,none⟩) n cap))
  (hnone:gone=none→v = .slice none 0 0)
  {cells:List Value} (hown:w.ownsRow 0 e t.n v xs.length cells) (hel:∀ i (hi:i<xs.length),t.rel w (G.im s φ) xs[i] ((cells.drop (i*t.n)).take t.n))
  (hy:listRel w (G.im s φ) φ t ys vy) :
  ∃ u w',(Builtin.append_ #[T,T] ty #[v,vy]).run P w = .ok u w'∧Done G φ s a w k u w':=by
 obtain ⟨hb,hk⟩:=hk
 simp only [St.use_eq,grownC_eq] at hk
 obtain ⟨hn,hz⟩:=(hτ e ie hie).ty t ht
 obtain ⟨ji,p1,p2,p3,p4⟩:=(hτ e ie hie).info
 have hu:P.underlying T=some (.slice e):=by rw [(hτ T i hi).und,hd]
 obtain ⟨A,cap,rfl,hyc,hyr⟩:=hy
 have fin:∀ (v':Value) (w':World) (news:List Value),(Builtin.append_ #[T,T] ty #[v,.slice A ys.length cap]).run P w = .ok v' w'→w'.ownsRow 0 e t.n v' (xs++ys).length (cells++news)→w.grownBy w' v.ownBlock→
   (v'.ownBlock=v.ownBlock∨v'.ownBlock=some w.heap.size)→(∀ i (hi:i<ys.length),t.rel w (G.im s φ) ys[i] ((news.drop (i*t.n)).take t.n))→
   ∃ u w',(Builtin.append_ #[T,T] ty #[v,.slice A ys.length cap]).run P w = .ok u w'∧Done G φ s a w k u w':=by
  intro v' w' news hrun h1 h2 h3 h4
  obtain ⟨p,k1,k2,k3⟩:=app_sat h hgone hnone h1 h2 h3 (append_rel hown.1 hel h4)
  exact ⟨v',w',hrun,_,_,_,_,hk,k1,k2,k3,J3 _ _ _⟩
 by_cases hne:ys=[]
 ·subst hne
  have hrun:(Builtin.append_ #[T,T] ty #[v,.slice A 0 cap]).run P w = .ok v w:=by
   have hl0:∀ w,(sizeOf e).run P w = .ok ie.size w:=fun w=>Jj hτ hie w
   have main:∀ (base:Option Addr) (sLen sCap:Nat),sLen≤sCap→(Builtin.append_ #[T,T] ty #[.slice base sLen sCap,.slice A 0 cap]).run P w = .ok (.slice base sLen sCap) w:=by
    intro base sLen sCap hle
    cases A with
    | none=>
     cases base <;> simp [Builtin.append_,run_underlying hu,hl0,Builtin.lenOf,Builtin.firstCells,hle,storeCells]
    | some ad=>
     cases base <;> simp [Builtin.append_,run_underlying hu,hl0,Builtin.lenOf,Builtin.firstCells,loadCells,loadCellsFrom,hle,storeCells]
   rcases hown.2 with ⟨rfl,_⟩ | ⟨g,c,cur,rfl,_,_,hle,_⟩
   ·exact main none 0 0 (Nat.le_refl _)
   ·exact main _ _ _ hle
  refine fin v w [] hrun (by simpa using hown) ⟨rfl,rfl,rfl,Nat.le_refl _,fun _ _ _=>rfl⟩ (.inl rfl) (fun i hi=>by simp at hi)
 ·obtain ⟨b,o,rfl,hr⟩:=hyr hne
  obtain ⟨news,n1,n2,n3,n4⟩:=row_cells hr
  have h63':xs.length+ys.length≤maxLen:=by
   have:(xs.length+ys.length)*1≤(xs.length+ys.length)*ie.bytes:=Nat.mul_le_mul_left _ hby
   rw [maxLen_eq];omega
  obtain ⟨v',w',r1,r2,r3,_,r5⟩:=run_append_own_at (P:=P) w 0 T ty e ji ie.zero t.n ie.bytes hu p1 p4 (by rw [p2,hn]) p3
   (by rw [← Array.length_toList,hz,zv_len]) (by omega) v xs.length cells hown ⟨b,o,none⟩ ys.length cap news n1 (fun j u hu=>by rw [J5];exact n2 j u hu) n3 h63' hb (Nat.zero_le _)
  exact fin v' w' news r1 (by rw [List.length_append];exact r2) r3 r5 n4
theorem app_spec (hτ:τ.Ok P) (h:Sat G φ s a w) {T T':TypeId} {ty:TypeId} {x y:CV} {vx vy:Value} {k:AV→St→List Nat→Prop} (hk:appK τ T T' s x y k)
  (hx:CV.rel w (G.im s φ) φ s.ln s.nx x vx) (hy:CV.rel w (G.im s φ) φ s.ln s.nx y vy) :
  ∃ u w',(Builtin.append_ #[T,T'] ty #[vx,vy]).run P w = .ok u w'∧Done G φ s a w k u w':=by
 unfold appK at hk
 split at hk
 ·rename_i i hT hi
  have hT:=Nat.eq_of_beq_eq_true hT
  subst hT
  split at hk
  ·rename_i e hd
   split at hk
   ·rename_i ie hie
    split at hk
    ·rename_i t ht hsz hby
     have hsz:=Nat.le_of_ble_eq_true hsz
     have hby:=Nat.le_of_ble_eq_true hby
     obtain ⟨ys,ids,hk,_,hyl,_,_⟩:=viewK_list h hk hy
     split at hk
     ·rename_i id _
      split at hk
      ·rename_i e' t' xs hm hat
       split at hk
       ·rename_i he
        have he:=Nat.eq_of_beq_eq_true he
        subst he
        obtain ⟨xs',hk',h2,h3⟩:=Ty.eqK_spec hk
        cases h2
        cases h3
        obtain ⟨cells,c1,c2,c3⟩:=h.ownsRow hat hx
        refine appC_spec hτ h hi hd hie ht hsz hby (gone:=some id) hk' ?_ (fun e1=>by cases e1) c1 c2 hyl
        intro id' e1
        cases e1
        exact ⟨⟨_,_,_,hat⟩,c3⟩
       ·exact hk.elim
      ·exact hk.elim
     ·obtain ⟨rfl,_⟩:=hx
      exact appC_spec hτ h hi hd hie ht hsz hby hk (fun id' e1=>by cases e1) (fun _=>rfl) (cells:=[]) ⟨by simp,.inl ⟨rfl,rfl⟩⟩ (fun i hi=>by simp at hi) hyl
     ·exact hk.elim
    ·exact hk.elim
   ·exact hk.elim
  ·exact hk.elim
 ·exact hk.elim
end
end Go.AM
