import Derived.Test.YtnmfbobdffnblaaGreatSoloTurnsQ0
import Derived.Test.YtnmfbobdffnblaaGreatSoloTurnsS9
import Derived.Test.YtnmfbobdffnblaaGreatAmY
set_option linter.unusedVariables false
set_option linter.unusedSimpArgs false
set_option linter.unusedSectionVars false
set_option maxRecDepth 100000

namespace Go.Proofs.Cv
open Go.AM Go.Proofs.PlB Go.Proofs.PlW Go.Proofs.PlT Go.Proofs.PlS Go.Proofs.Sh Go.Proofs.Num Go.Proofs.Div Go.Proofs.Op
def Tot (p:Option (Int×Tn)):Prop:=∃ r,p=some r∧inI r.2.2
theorem Bm:inI []:=fun x hx=>absurd hx (by simp)
theorem Dl (e:Int):Tot (some (e,[],[])):=⟨_,rfl,Bm⟩
section
variable (G K:List Int) (o c w m s L:Nat) (o1:1≤o) (c1:1≤c) (w1:1≤w) (hG:G.length=o*m) (hK:K.length=o*(c*w)) (bG:o*m≤4096) (bK:o*(c*w)≤4096) (s1:1≤s) (s64:s≤64) (iG:inI G) (iK:inI K) (L1:1≤L) (bL:c*L≤4096)
include o1 c1 w1 hG hK bG bK s1 s64 iG iK L1 bL
def inV (G K:List Int) (o c w m s L q:Nat):Int:=sat (rhe (sg (fun i=>sg (inF G K c w m s (q/L) (q%L) i) w) o))
theorem in_o4:o≤4096:=Nat.le_trans (Nat.le_mul_of_pos_right _ (Nat.mul_pos c1 w1)) bK
theorem in_outP (q:Nat) (hq:q<c*L) :
  Ag (fun go (z:Int×Int×Int×Int)=>f149_l41 ([(o:Int),(m:Int)],G) ([(o:Int),(c:Int),(w:Int)],K) s L (q:Int) go z.1 z.2.1 z.2.2.1 z.2.2.2) Ah ((0:Int),(0:Int),(0:Int),(0:Int))=some (acc (sg (fun i=>sg (inF G K c w m s (q/L) (q%L) i) w) o)):=by
 have hL4:L≤4096:=Nat.le_trans (Nat.le_mul_of_pos_left _ c1) bL
 have hl:q%L<4096:=Nat.lt_of_lt_of_le (Nat.mod_lt _ L1) hL4
 have hx:q/L<c:=Nat.div_lt_of_lt_mul (by rw [Nat.mul_comm];exact hq)
 have eL:Int.tmod (q:Int) (L:Int)=((q%L:Nat):Int):=by rw [Int.tmod_eq_emod_of_nonneg (Int.natCast_nonneg _),← Int.natCast_emod]
 have eX:IntKind.i64.wrap (Int.tdiv (q:Int) (L:Int))=((q/L:Nat):Int):=by
  have:q/L≤q:=Nat.div_le_self _ _
  rw [Int.tdiv_eq_ediv_of_nonneg (Int.natCast_nonneg _),← Int.natCast_ediv,wnat (by omega)]
 have o4:=in_o4 G K o c w m s L o1 c1 w1 hG hK bG bK s1 s64 iG iK L1 bL
 have h:=Ba (B:=fun go (z:Int×Int×Int×Int)=>f149_l41 ([(o:Int),(m:Int)],G) ([(o:Int),(c:Int),(w:Int)],K) s L (q:Int) go z.1 z.2.1 z.2.2.1 z.2.2.2)
  (fun i=>((i:Int),acc (sg (fun i=>sg (inF G K c w m s (q/L) (q%L) i) w) i))) o (acc (sg (fun i=>sg (inF G K c w m s (q/L) (q%L) i) w) o)) ?_ ?_ (by omega)
 ·exact h
 ·intro i hi go
  unfold f149_l41
  simp only
  have inner:=in_innerP G K o c w m s (q/L) (q%L) c1 w1 hG hK bG bK s1 s64 iG iK hx hl (L:Int) (q:Int) eL eX i hi _ rfl
  rw [show rd (0:Int) [(o:Int),(c:Int),(w:Int)] 0=(o:Int) from rfl,dT,cond_true]
  have inner':Ag (fun go (z:Int×Int×Int×Int)=>f149_l44 ([(o:Int),(m:Int)],G) ([(o:Int),(c:Int),(w:Int)],K) s L q (i:Int) go z.1 z.2.1 z.2.2.1 z.2.2.2) Ah ((0:Int),(acc (sg (fun i=>sg (inF G K c w m s (q/L) (q%L) i) w) i)).1,(acc (sg (fun i=>sg (inF G K c w m s (q/L) (q%L) i) w) i)).2.1,(acc (sg (fun i=>sg (inF G K c w m s (q/L) (q%L) i) w) i)).2.2)=_:=inner
  rw [inner',Aa,Bp i]
  rfl
 ·intro go
  unfold f149_l41
  simp only
  rw [show rd (0:Int) [(o:Int),(c:Int),(w:Int)] 0=(o:Int) from rfl,dF,cond_false]
theorem in_loopP (r:List Int) :
  Ag (fun go (z:Int×List Int)=>f149_l32 ([(o:Int),(m:Int)],G) ([(o:Int),(c:Int),(w:Int)],K) s L (0,r,List.replicate (c*L) 0) go z.1 z.2) Ah ((0:Int),List.replicate (c*L) 0)=some (Ao (c*L) (inV G K o c w m s L)):=by
 have hL4:L≤4096:=Nat.le_trans (Nat.le_mul_of_pos_left _ c1) bL
 rw [upto_zero _ (inV G K o c w m s L)]
 have h:=Ba (B:=fun go (x:Int×List Int)=>f149_l32 ([(o:Int),(m:Int)],G) ([(o:Int),(c:Int),(w:Int)],K) s L (0,r,upto (c*L) 0 (inV G K o c w m s L)) go x.1 x.2) (fun q=>((q:Int),upto (c*L) q (inV G K o c w m s L))) (c*L) (Ao (c*L) (inV G K o c w m s L)) ?_ ?_ (by omega)
 ·exact h
 ·intro q hq go
  have hl:q%L<4096:=Nat.lt_of_lt_of_le (Nat.mod_lt _ L1) hL4
  have hx:q/L<c:=Nat.div_lt_of_lt_mul (by rw [Nat.mul_comm];exact hq)
  have hb:Bd (sg (fun i=>sg (inF G K c w m s (q/L) (q%L) i) w) o):=by
   have:=in_bd G K o c w m s (q/L) (q%L) c1 w1 hG hK bG bK s1 s64 iG iK hx hl (o-1) w (by omega) (Nat.le_refl _)
   obtain ⟨p,rfl⟩:∃ p,o=p+1:=⟨o-1,by omega⟩
   exact this
  obtain ⟨z,ez⟩:=acc_fix _ hb
  unfold f149_l32
  simp only [De]
  rw [dT,cond_true,Ab,Ab,in_outP G K o c w m s L o1 c1 w1 hG hK bG bK s1 s64 iG iK L1 bL q hq,Aa,ez,Aa,Ab,Bp q,Int.toNat_natCast]
  have:=upto_set (c*L) q (inV G K o c w m s L) _ hq (rfl:sat (rhe (sg (fun i=>sg (inF G K c w m s (q/L) (q%L) i) w) o))=inV G K o c w m s L q)
  simp only
  rw [this]
 ·intro go
  unfold f149_l32
  simp only [De]
  rw [dF,cond_false,upto_full]
end
theorem win_any (a b s:Int) (hs:s≠0):∃ v,f190 a b s=some v:=by
 unfold f190
 by_cases h:b>a
 ·rw [dT h];exact ⟨_,rfl⟩
 ·rw [dF h,cond_false,Ab hs];exact ⟨_,rfl⟩
theorem in_j5 (g k:Tn) (s L:Int) (hs:s≠0):∃ b,f149_j5 g k s L=some b∧(b=false→g.1.length=2∧k.1.length=3∧rd (0:Int) k.1 0=rd (0:Int) g.1 0):=by
 unfold f149_j5
 by_cases h1:g.1.length=2
 ·rw [nF,cond_false]
  by_cases h2:k.1.length=3
  ·rw [nF,cond_false,Ab,Ab]
   by_cases h3:rd (0:Int) k.1 0=rd (0:Int) g.1 0
   ·rw [nF h3,cond_false,Ab,Ab]
    obtain ⟨v,ev⟩:=win_any L (rd (0:Int) k.1 2) s hs
    rw [ev,Aa]
    exact ⟨_,rfl,fun _=>⟨h1,h2,h3⟩⟩
   ·rw [nT h3];exact ⟨_,rfl,fun h=>absurd h (by decide)⟩
  ·rw [nT];exact ⟨_,rfl,fun h=>absurd h (by decide)⟩
 ·rw [nT];exact ⟨_,rfl,fun h=>absurd h (by decide)⟩
theorem backInW (g k:Tn) (s L:Int) (ig:inI g.2) (ik:inI k.2):Tot (f149 g k s L):=by
 unfold f149 f149_j3
 have e4:f149_j4 g k s L=some (!(decide (D7 g k s L))):=ker_j4 g k s L
 rw [e4,Aa]
 by_cases h:D7 g k s L
 ·rw [dT h,Bool.not_true,cond_false]
  obtain ⟨gg,gk,s1,s64,L1,L4⟩:=h
  obtain ⟨b,eb,hb⟩:=in_j5 g k s L (by omega)
  rw [eb,Aa]
  cases b
  ·rw [cond_false,Aa,Ai]
   obtain ⟨h1,h2,h3⟩:=hb rfl
   rw [Ab,Ab,Ab,Ab,of_ok,Aa]
   by_cases hp:0<prd [rd (0:Int) k.1 1,L]
   ·rw [if_pos hp]
    simp only
    rw [nF rfl,cond_false]
    obtain ⟨o,m,eg,o1,m1,lg,bg⟩:=Em gg h1
    obtain ⟨o',c,w,ek,_,c1,w1,lk,bk⟩:=ker_nat gk h2
    obtain ⟨s',rfl⟩:=Int.eq_ofNat_of_zero_le (show 0≤s by omega)
    obtain ⟨L',rfl⟩:=Int.eq_ofNat_of_zero_le (show 0≤L by omega)
    have eo:o'=o:=by rw [eg,ek] at h3;exact Int.ofNat.inj h3
    subst eo
    generalize g.2=G at *
    generalize k.2=K at *
    subst eg
    subst ek
    rw [show rd (0:Int) [(o':Int),(c:Int),(w:Int)] 1=(c:Int) from rfl] at hp ⊢
    obtain ⟨h5,h6,h7⟩:=prod2 hp
    have hN:(prd [(c:Int),(L':Int)]).toNat=c*L':=by rw [h7,← Int.natCast_mul,Int.toNat_natCast]
    have:=Av [(c:Int),(L':Int)]
    rw [h7,← Int.natCast_mul] at this
    rw [hN,in_loopP G K o' c w m s' L' o1 c1 w1 lg lk bg bk (by omega) (by omega) ig ik (by omega) (by omega),Aa]
    exact ⟨_,rfl,inI_tab (fun i hi=>Bt _)⟩
   ·rw [if_neg hp];exact Dl _
  ·rw [cond_true,Aa,As];exact Dl _
 ·rw [dF h,Bool.not_false,cond_true,Aa,As];exact Dl _
def bst (V:List Int) (base:Nat):Nat→Nat
 | 0=>base
 | y+1=>if rd (0:Int) V ((base+(y+1):Nat):Int)>rd (0:Int) V (bst V base y:Int) then base+(y+1) else bst V base y
theorem bst_in (V:List Int) (base:Nat):∀ y,base≤bst V base y∧bst V base y≤base+y
 | 0=>⟨Nat.le_refl _,Nat.le_refl _⟩
 | y+1=>by
  have:=bst_in V base y
  simp only [bst]
  split <;> omega
theorem tab_push2 {α:Type} (n:Nat) (g:Nat→α):Ao n g++[g n]=Ao (n+1) g:=by simp [Ao,List.range_succ]
def pl (V:List Int) (L w q:Nat):Nat:=bst V (q/(L/w)*L+q%(L/w)*w) (w-1)
theorem prd_pos2 {c m:Nat} (h1:1≤c) (h2:1≤m) (h:c*m≤4096):0<prd [(c:Int),(m:Int)]∧(prd [(c:Int),(m:Int)]).toNat=c*m:=by
 have a1:c≤c*m:=Nat.le_mul_of_pos_right _ h2
 have a2:m≤c*m:=Nat.le_mul_of_pos_left _ h1
 have e:prd [(c:Int),(m:Int)]=((c*m:Nat):Int):=by rw [prd_two,if_neg (by rw [← Int.natCast_mul];omega),Int.natCast_mul]
 rw [e]
 exact ⟨by omega,Int.toNat_natCast _⟩
section
variable (V:List Int) (c L w:Nat) (c1:1≤c) (w1:1≤w) (hw:w≤L) (hV:V.length=c*L) (bV:c*L≤4096)
include c1 w1 hw hV bV
theorem pool_m:1≤L/w∧L/w≤L∧c*(L/w)≤4096∧L≤4096:=by
 have a:L/w≤L:=Nat.div_le_self _ _
 have b:c*(L/w)≤c*L:=Nat.mul_le_mul_left _ a
 exact ⟨(Nat.le_div_iff_mul_le w1).2 (by omega),a,by omega,Nat.le_trans (Nat.le_mul_of_pos_left _ c1) bV⟩
theorem pool_in {x j y:Nat} (hx:x<c) (hj:j<L/w) (hy:y<w):x*L+j*w+y<V.length:=by
 have h1:(j+1)*w≤L/w*w:=Nat.mul_le_mul_right _ hj
 have h2:L/w*w≤L:=Nat.div_mul_le_self _ _
 rw [Nat.add_mul,Nat.one_mul] at h1
 have:=in_mat (c:=c) (L:=L) hx (show j*w+y<L by omega)
 rw [hV];omega
theorem pool_eM:IntKind.i64.wrap (Int.tdiv (L:Int) (w:Int))=((L/w:Nat):Int):=by
 obtain ⟨_,a,_,b⟩:=pool_m V c L w c1 w1 hw hV bV
 rw [Int.tdiv_eq_ediv_of_nonneg (by omega),← Int.natCast_ediv,wnat (by omega)]
theorem pool_bestP (q:Nat) (hq:q<c*(L/w)) :
  Ag (fun go (x:Int×Int)=>f194_l7 ([(c:Int),(L:Int)],V) w (q:Int) go x.1 x.2) Ah (((q/(L/w)*L+q%(L/w)*w:Nat):Int),((q/(L/w)*L+q%(L/w)*w+1:Nat):Int))=some (pl V L w q:Int):=by
 obtain ⟨m1,mL,mN,hL⟩:=pool_m V c L w c1 w1 hw hV bV
 have eM:=pool_eM V c L w c1 w1 hw hV bV
 have hx:q/(L/w)<c:=Nat.div_lt_of_lt_mul (by rw [Nat.mul_comm];exact hq)
 have hj:q%(L/w)<L/w:=Nat.mod_lt _ m1
 have eI:IntKind.i64.wrap (Int.tdiv (q:Int) ((L/w:Nat):Int))=((q/(L/w):Nat):Int):=by
  have:q/(L/w)≤q:=Nat.div_le_self _ _
  rw [Int.tdiv_eq_ediv_of_nonneg (by omega),← Int.natCast_ediv,wnat (by omega)]
 have eN:Int.tmod (q:Int) ((L/w:Nat):Int)=((q%(L/w):Nat):Int):=by
  rw [Int.tmod_eq_emod_of_nonneg (by omega),← Int.natCast_emod]
 have hend:=pool_in V c L w c1 w1 hw hV bV hx hj (show w-1<w by omega)
 unfold pl
 generalize q/(L/w)=x at *
 generalize q%(L/w)=j at *
 generalize hm:L/w=m at *
 have eB:IntKind.i64.wrap (IntKind.i64.wrap (IntKind.i64.wrap ((x:Int)*(L:Int))+IntKind.i64.wrap ((j:Int)*(w:Int)))+(w:Int))=((x*L+j*w+w:Nat):Int):=ixA x L j w w (by omega)
 have h:=Ba (B:=fun go (z:Int×Int)=>f194_l7 ([(c:Int),(L:Int)],V) w (q:Int) go z.1 z.2) (fun y=>((bst V (x*L+j*w) y:Int),((x*L+j*w+1+y:Nat):Int))) (w-1) (bst V (x*L+j*w) (w-1):Int) ?_ ?_ (by omega)
 ·exact h
 ·intro y hy go
  have hb:=bst_in V (x*L+j*w) y
  unfold f194_l7
  simp only
  have m0:((m:Nat):Int)≠0:=by omega
  rw [show rd (0:Int) [(c:Int),(L:Int)] 1=(L:Int) from rfl,eM,Ab m0,Ab m0,eI,eN,eB,dT,cond_true,Ab,Ab,Bp _]
  have e2:((x*L+j*w+1+y:Nat):Int)=((x*L+j*w+(y+1):Nat):Int):=by omega
  have e3:((x*L+j*w+1+y+1:Nat):Int)=((x*L+j*w+1+(y+1):Nat):Int):=by omega
  rw [e2,e3]
  simp only [bst]
  by_cases g:rd (0:Int) V ((x*L+j*w+(y+1):Nat):Int)>rd (0:Int) V (bst V (x*L+j*w) y:Int)
  ·rw [dT g,if_pos g];rfl
  ·rw [dF g,if_neg g];rfl
 ·intro go
  unfold f194_l7
  simp only
  have m0:((m:Nat):Int)≠0:=by omega
  rw [show rd (0:Int) [(c:Int),(L:Int)] 1=(L:Int) from rfl,eM,Ab m0,Ab m0,eI,eN,eB,dF,cond_false]
def plT (N:Nat) (V:List Int) (L w:Nat):List Int:=Ao N (fun q=>(pl V L w q:Int))
def plV (V:List Int) (L w q:Nat):Int:=rd (0:Int) V (pl V L w q:Int)
theorem pl_in {q:Nat} (hq:q<c*(L/w)):pl V L w q<V.length:=by
 obtain ⟨m1,mL,mN,hL⟩:=pool_m V c L w c1 w1 hw hV bV
 have hx:q/(L/w)<c:=Nat.div_lt_of_lt_mul (by rw [Nat.mul_comm];exact hq)
 have hj:q%(L/w)<L/w:=Nat.mod_lt _ m1
 have hend:=pool_in V c L w c1 w1 hw hV bV hx hj (show w-1<w by omega)
 have:=bst_in V (q/(L/w)*L+q%(L/w)*w) (w-1)
 unfold pl;omega
theorem pool_loopP (r:List Int) :
  Ag (fun go (x:Int×List Int×List Int)=>f194_l6 ([(c:Int),(L:Int)],V) w (0,r,List.replicate (c*(L/w)) 0) go x.1 x.2.1 x.2.2) Ah ((0:Int),[],List.replicate (c*(L/w)) 0)=some (plT (c*(L/w)) V L w,Ao (c*(L/w)) (plV V L w)):=by
 obtain ⟨m1,mL,mN,hL⟩:=pool_m V c L w c1 w1 hw hV bV
 have eM:=pool_eM V c L w c1 w1 hw hV bV
 rw [upto_zero _ (plV V L w)]
 have h:=Ba (B:=fun go (x:Int×List Int×List Int)=>f194_l6 ([(c:Int),(L:Int)],V) w (0,r,upto (c*(L/w)) 0 (plV V L w)) go x.1 x.2.1 x.2.2) (fun q=>((q:Int),plT q V L w,upto (c*(L/w)) q (plV V L w))) (c*(L/w)) (plT (c*(L/w)) V L w,Ao (c*(L/w)) (plV V L w)) ?_ ?_ (by omega)
 ·exact h
 ·intro q hq go
  have hx:q/(L/w)<c:=Nat.div_lt_of_lt_mul (by rw [Nat.mul_comm];exact hq)
  have hj:q%(L/w)<L/w:=Nat.mod_lt _ m1
  have hend:=pool_in V c L w c1 w1 hw hV bV hx hj (show w-1<w by omega)
  have best:=pool_bestP V c L w c1 w1 hw hV bV q hq
  have hpl:=pl_in V c L w c1 w1 hw hV bV hq
  have eI:IntKind.i64.wrap (Int.tdiv (q:Int) ((L/w:Nat):Int))=((q/(L/w):Nat):Int):=by
   have:q/(L/w)≤q:=Nat.div_le_self _ _
   rw [Int.tdiv_eq_ediv_of_nonneg (by omega),← Int.natCast_ediv,wnat (by omega)]
  have eN:Int.tmod (q:Int) ((L/w:Nat):Int)=((q%(L/w):Nat):Int):=by
   rw [Int.tmod_eq_emod_of_nonneg (by omega),← Int.natCast_emod]
  unfold f194_l6
  simp only [De]
  have m0:((L/w:Nat):Int)≠0:=by omega
  have e2:IntKind.i64.wrap (IntKind.i64.wrap (((q/(L/w):Nat):Int)*(L:Int))+IntKind.i64.wrap (((q%(L/w):Nat):Int)*(w:Int)))=((q/(L/w)*L+q%(L/w)*w:Nat):Int):=by
   rw [wmul _ L (by omega),wmul _ w (by omega),wadd _ _ (by omega)]
  have hlen:(plT q V L w).length=q:=Ap _ _
  rw [show rd (0:Int) [(c:Int),(L:Int)] 1=(L:Int) from rfl,eM,dT,cond_true,Ab m0,Ab m0,eI,eN,e2,Bp _,best,Aa,Ab,Ab,
   Ab (by rw [hlen];simp only [List.length_cons,List.length_nil];omega),Bp q,Int.toNat_natCast]
  have:=upto_set (c*(L/w)) q (plV V L w) (rd (0:Int) V (pl V L w q:Int)) hq rfl
  rw [this]
  have e4:plT q V L w++[(pl V L w q:Int)]=plT (q+1) V L w:=tab_push2 q (fun q=>(pl V L w q:Int))
  rw [e4]
 ·intro go
  unfold f194_l6
  simp only [De]
  rw [dF,cond_false,upto_full]
end
def Do (a:Tn) (wid:Int):Int×List Int×List Int×List Int:=
 if Am a=true then
  if a.1.length=2 then
   if 1≤wid∧wid≤rd (0:Int) a.1 1 then
    (0,[rd (0:Int) a.1 0,(((rd (0:Int) a.1 1).toNat/wid.toNat:Nat):Int)],Ao ((rd (0:Int) a.1 0).toNat*((rd (0:Int) a.1 1).toNat/wid.toNat)) (plV a.2 (rd (0:Int) a.1 1).toNat wid.toNat),plT ((rd (0:Int) a.1 0).toNat*((rd (0:Int) a.1 1).toNat/wid.toNat)) a.2 (rd (0:Int) a.1 1).toNat wid.toNat)
   else (1,[],[],[])
  else (4,[],[],[])
 else (1,[],[],[])
theorem poolP (a:Tn) (wid:Int):f194 a wid=some (Do a wid):=by
 have eg:f119 (a.1,a.2)=some (Am a):=At a
 unfold f194 f194_j2 Do
 rw [eg,Aa]
 by_cases ga:Am a=true
 ·rw [if_pos ga,ga,Bool.not_true,cond_false]
  by_cases f1:a.1.length=2
  ·rw [if_pos f1,nF,cond_false]
   by_cases h:1≤wid∧wid≤rd (0:Int) a.1 1
   ·have hj:f194_j3 a wid=some false:=by
     unfold f194_j3
     rw [dF,cond_false,Ab,dF]
    rw [if_pos h,hj,Aa,cond_false,Aa,Ai]
    obtain ⟨c,L,ea,c1,L1,la,ba⟩:=Em ga f1
    obtain ⟨w,rfl⟩:=Int.eq_ofNat_of_zero_le (show 0≤wid by omega)
    generalize a.2=V at *
    subst ea
    have fw:(w:Int)≤(L:Int):=h.2
    have w1:1≤w:=by omega
    have hw:w≤L:=by omega
    obtain ⟨m1,mL,mN,hL⟩:=pool_m V c L w c1 w1 hw la ba
    obtain ⟨p0,pN⟩:=prd_pos2 c1 m1 mN
    rw [Ab (by simp),Ab (by simp),Ab,Ab (by simp),show rd (0:Int) [(c:Int),(L:Int)] 0=(c:Int) from rfl,show rd (0:Int) [(c:Int),(L:Int)] 1=(L:Int) from rfl,pool_eM V c L w c1 w1 hw la ba,of_ok,if_pos p0,pN,Aa]
    simp only
    rw [pool_loopP V c L w c1 w1 hw la ba,Aa]
    rfl
   ·have hj:f194_j3 a wid=some true:=by
     unfold f194_j3
     by_cases h1:wid<1
     ·rw [dT h1];rfl
     ·rw [dF h1,cond_false,Ab,dT]
    rw [if_neg h,hj];rfl
  ·rw [if_neg f1,nT];rfl
 ·rw [if_neg ga,show Am a=false by simpa using ga];rfl
end Go.Proofs.Cv
namespace Go.Proofs.Op
open Go.AM Go.Proofs.PlB Go.Proofs.PlW Go.Proofs.PlT Go.Proofs.PlS Go.Proofs.Sh Go.Proofs.Num Go.Proofs.Div Go.Proofs.PlR
abbrev noT:Tn:=([],[])
section
variable (l:List Nd) (i:Nat)
theorem vl_nat (n:Nat) (h:n<l.length):vl l (n:Int)=nd l n:=by unfold vl;rw [iPo,Int.toNat_natCast]
end
end Go.Proofs.Op
namespace Go.Proofs.Cv
open Go.AM Go.Proofs.PlB Go.Proofs.PlW Go.Proofs.PlT Go.Proofs.PlS Go.Proofs.Sh Go.Proofs.Num Go.Proofs.Div Go.Proofs.Op
open Go.Proofs.PlR hiding Tn
theorem hor_in2 {d p:List Int}:∀ k:Nat,(∀ j,j<k→0≤rd (0:Int) p (j:Int)∧rd (0:Int) p (j:Int)<rd (0:Int) d (j:Int))→k≤d.length→0≤hor d p k∧hor d p k<Bh (d.take k)
 | 0,_,_=>by simp [hor,Bh]
 | k+1,W,h=>by
  obtain ⟨h1,h2⟩:=hor_in2 k (fun j hj=>W j (by omega)) (by omega)
  obtain ⟨l,u⟩:=W k (by omega)
  rw [prodL_take k (by omega)]
  simp only [hor]
  have m1:0≤hor d p k*rd (0:Int) d (k:Int):=Int.mul_nonneg h1 (by omega)
  have m2:(hor d p k+1)*rd (0:Int) d (k:Int)≤Bh (d.take k)*rd (0:Int) d (k:Int):=Int.mul_le_mul_of_nonneg_right (by omega) (by omega)
  rw [Int.add_mul,Int.one_mul] at m2
  constructor <;> omega
theorem hor_small2 {d p:List Int} (hd:0<prd d) (k:Nat) (W:∀ j,j<k→0≤rd (0:Int) p (j:Int)∧rd (0:Int) p (j:Int)<rd (0:Int) d (j:Int)) (hk:k≤d.length):0≤hor d p k∧hor d p k<prd d∧hor d p k<4096:=by
 obtain ⟨e,h1,h2⟩:=B5 hd
 have hr:=Av d
 obtain ⟨a,b⟩:=hor_in2 k W hk
 obtain ⟨_,c⟩:=prodL_le (fun x hx=>(h1 x hx).1) k
 omega
theorem at_any (d p:List Int) (hd:0<prd d):∃ q b,f185 d p=some (q,b)∧0≤q∧q<prd d:=by
 have hl:=Dy hd
 unfold f185 f185_j1
 rw [Ay,Aa,dT (show prd d>0 from hd),Bool.not_true,cond_false]
 by_cases hp:p.length=d.length
 ·rw [nF,cond_false,Aa,Ai]
  have LL:=Bf (B:=fun go (x:Int×Int)=>f185_l4 d p go x.1 x.2)
   (fun x=>∃ k:Nat,k≤d.length∧x=(hor d p k,(k:Int))∧∀ j,j<k→0≤rd (0:Int) p (j:Int)∧rd (0:Int) p (j:Int)<rd (0:Int) d (j:Int)) (fun x=>d.length-x.2.toNat)
   (fun z=>∀ v,z=Sum.inr v→0≤v∧v<prd d) ?_ ((0:Int),(0:Int)) ⟨0,by omega,rfl,fun j hj=>absurd hj (by omega)⟩ (by simp only;omega)
  ·obtain ⟨z,ez,hz⟩:=LL
   rw [ez,Aa]
   cases z with
   | inl u=>exact ⟨0,false,rfl,by omega,hd⟩
   | inr v=>exact ⟨v,true,rfl,hz v rfl⟩
  ·rintro _ ⟨k,hk,rfl,W⟩
   by_cases hkk:k<d.length
   ·by_cases hw:0≤rd (0:Int) p (k:Int)∧rd (0:Int) p (k:Int)<rd (0:Int) d (k:Int)
    ·have W2:∀ j,j<k+1→0≤rd (0:Int) p (j:Int)∧rd (0:Int) p (j:Int)<rd (0:Int) d (j:Int):=fun j hj=>by
      by_cases e:j=k
      ·subst e;exact hw
      ·exact W j (by omega)
     obtain ⟨a,b,c⟩:=hor_small2 hd k W hk
     obtain ⟨a2,b2,c2⟩:=hor_small2 hd (k+1) W2 hkk
     refine .inr ⟨(hor d p (k+1),((k+1:Nat):Int)),fun go=>?_,⟨k+1,hkk,rfl,W2⟩,by simp only;omega⟩
     have hj:f185_j5 d p (k:Int)=some (Sum.inl ()):=by
      unfold f185_j5
      rw [dF,cond_false,Ab,dF];rfl
     simp only [hor] at a2 b2 c2
     have m1:0≤hor d p k*rd (0:Int) d (k:Int):=Int.mul_nonneg a (by omega)
     unfold f185_l4
     simp only
     rw [dT,cond_true,Ab,hj,Aa,Ai,Ab,Bp k,Ae (n:=hor d p k*rd (0:Int) d (k:Int)) (by omega) (by omega),Ae]
     rfl
    ·refine .inl ⟨Sum.inl (),fun go=>?_,fun v h=>absurd h (by simp)⟩
     have hj:f185_j5 d p (k:Int)=some (Sum.inr ()):=by
      unfold f185_j5
      by_cases h1:rd (0:Int) p (k:Int)<0
      ·rw [dT h1];rfl
      ·rw [dF h1,cond_false,Ab,dT];rfl
     unfold f185_l4
     simp only
     rw [dT,cond_true,Ab,hj,Aa,As]
   ·obtain rfl:k=d.length:=by omega
    obtain ⟨a,b,c⟩:=hor_small2 hd _ W (Nat.le_refl _)
    refine .inl ⟨Sum.inr (hor d p d.length),fun go=>?_,fun v h=>by injection h with h;subst h;exact ⟨a,b⟩⟩
    unfold f185_l4
    simp only
    rw [dF,cond_false]
 ·rw [nT,cond_true,Aa,As]
  exact ⟨0,false,rfl,by omega,hd⟩
theorem rd_any {l:List Int} (h:inI l) (q:Int) (h0:0≤q) (h1:q<l.length):InR (rd (0:Int) l q):=by
 obtain ⟨k,rfl⟩:=Int.eq_ofNat_of_zero_le h0
 exact Dr h k (by omega)
theorem spreadW (g:Tn) (d:List Int) (Aj:Int) (gg:Am g=true) (ig:inI g.2) (hd:0<prd d) (s0:0≤Aj) (s1:Aj<d.length):∃ t,f147 g d Aj=some t∧inI t.2:=by
 obtain ⟨hp,hl,_,hl2⟩:=Aq gg
 have hr:=Av d
 have hdl:=Dy hd
 unfold f147
 rw [new_ok,if_pos hd,Aa]
 simp only
 have LL:=Ds (B:=fun go (x:Int×List Int)=>f147_l1 g d Aj (0,d,List.replicate (prd d).toNat 0) go x.1 x.2)
  (fun k x=>x.1=(k:Int)∧x.2.length=(prd d).toNat∧inI x.2) (fun z=>inI z) (prd d).toNat ((0:Int),List.replicate (prd d).toNat 0) ⟨rfl,by simp,inI_rep _ _ (by decide)⟩ ?_ ?_ (by omega)
 ·obtain ⟨z,ez,hz⟩:=LL
  rw [ez,Aa];exact ⟨_,rfl,hz⟩
 ·rintro k hk ⟨_,l4⟩ ⟨rfl,hl4,il⟩
  have hpl:=plc_len d (k:Int)
  obtain ⟨q,b,eq,q0,q1⟩:=at_any g.1 ((([]:List Int)++(List.take (Int.toNat Aj) (plc d (k:Int))))++(List.drop (Int.toNat (IntKind.i64.wrap (Aj+(1:Int)))) (plc d (k:Int)))) hp
  refine ⟨(((k+1:Nat):Int),List.set l4 k (rd (0:Int) g.2 q)),fun go=>?_,rfl,by simp only [List.length_set];exact hl4,inI_set il _ _ (rd_any ig q q0 (by omega))⟩
  unfold f147_l1
  simp only [List.length_replicate]
  simp only at hl4
  have g3:(List.length ([]:List Int)+List.length (List.take (Int.toNat Aj) (plc d (k:Int))))*8≤140737488355328:=by rw [List.length_take];simp only [List.length_nil];omega
  have g4:(List.length (([]:List Int)++(List.take (Int.toNat Aj) (plc d (k:Int))))+List.length (List.drop (Int.toNat (IntKind.i64.wrap (Aj+(1:Int)))) (plc d (k:Int))))*8≤140737488355328:=by
   rw [List.nil_append,List.length_take,List.length_drop];omega
  rw [dT,cond_true,placeP d hd (k:Int) (by omega) (by omega),Aa]
  simp only
  rw [Ab,Ab (by rw [Ae];omega),Ab g3,Ab g4,eq,Aa]
  simp only
  rw [Ab,Ab,Bp k,Int.toNat_natCast]
 ·rintro ⟨_,l4⟩ ⟨rfl,hl4,il⟩
  refine ⟨l4,fun go=>?_,il⟩
  unfold f147_l1
  simp only [List.length_replicate]
  rw [dF,cond_false]
theorem pool_places (a:Tn) (w:Int) (h:(Do a w).1=0):Am a=true∧(((Do a w).2.2.2.length:Nat):Int)=prd (Do a w).2.1∧(Do a w).2.2.2.length≤4096∧∀ k:Nat,k<(Do a w).2.2.2.length→0≤rd (0:Int) (Do a w).2.2.2 (k:Int)∧rd (0:Int) (Do a w).2.2.2 (k:Int)<a.2.length:=by
 unfold Do at h ⊢
 by_cases c:Am a=true
 ·rw [if_pos c] at h ⊢
  by_cases e:a.1.length=2
  ·rw [if_pos e] at h ⊢
   by_cases f:1≤w∧w≤rd (0:Int) a.1 1
   ·rw [if_pos f] at h ⊢
    obtain ⟨cc,L,ea,c1,L1,la,ba⟩:=Em c e
    obtain ⟨w',rfl⟩:=Int.eq_ofNat_of_zero_le (show 0≤w by omega)
    refine ⟨c,?_⟩
    clear h c e
    generalize a.2=V at *
    subst ea
    have fw:(w':Int)≤(L:Int):=f.2
    have w1:1≤w':=by omega
    obtain ⟨m1,mL,mN,hL⟩:=pool_m V cc L w' c1 w1 (by omega) la ba
    obtain ⟨p0,pN⟩:=prd_pos2 c1 m1 mN
    have hlen:(plT (cc*(L/w')) V L w').length=cc*(L/w'):=Ap _ _
    have key:(((plT (cc*(L/w')) V L w').length:Nat):Int)=prd [(cc:Int),((L/w':Nat):Int)]∧(plT (cc*(L/w')) V L w').length≤4096∧∀ k:Nat,k<(plT (cc*(L/w')) V L w').length→0≤rd (0:Int) (plT (cc*(L/w')) V L w') (k:Int)∧rd (0:Int) (plT (cc*(L/w')) V L w') (k:Int)<V.length:=by
     refine ⟨by rw [hlen];omega,by omega,fun k hk=>?_⟩
     rw [hlen] at hk
     have:=pl_in V cc L w' c1 w1 (by omega) la ba hk
     have er:rd (0:Int) (plT (cc*(L/w')) V L w') (k:Int)=(pl V L w' k:Int):=Di _ _ _ _ hk
     rw [er]
     constructor <;> omega
    exact key
   ·rw [if_neg f] at h;exact absurd h (by decide)
  ·rw [if_neg e] at h;exact absurd h (by decide)
 ·rw [if_neg c] at h;exact absurd h (by decide)
theorem pickedW (g a:Tn) (w:Int) (h:(Do a w).1=0) (gg:Am g=true) (ig:inI g.2) (hd:g.1=(Do a w).2.1):∃ t,f150 g a w=some t∧inI t.2:=by
 obtain ⟨ga,hn,hn4,hp⟩:=pool_places a w h
 obtain ⟨pa,la,_,la2⟩:=Aq ga
 obtain ⟨pg,lg,_,lg2⟩:=Aq gg
 rw [hd] at lg
 unfold f150
 rw [new_ok,if_pos pa,Aa]
 have ep:f194 (a.1,a.2) w=some (Do a w):=poolP a w
 rw [ep,Aa]
 simp only
 have LL:=Ds (B:=fun go (x:Int×List Int)=>f150_l1 g (Do a w) go x.1 x.2)
  (fun k x=>x.1=(k:Int)∧x.2.length=a.2.length∧inI x.2) (fun z=>inI z) (Do a w).2.2.2.length ((0:Int),List.replicate (prd a.1).toNat 0) ⟨rfl,by simp only [List.length_replicate];omega,inI_rep _ _ (by decide)⟩ ?_ ?_ (by omega)
 ·obtain ⟨z,ez,hz⟩:=LL
  rw [ez,Aa];exact ⟨_,rfl,hz⟩
 ·rintro k hk ⟨_,l4⟩ ⟨rfl,hl4,il⟩
  simp only at hl4 il
  obtain ⟨p0,p1⟩:=hp k hk
  refine ⟨(((k+1:Nat):Int),List.set l4 (Int.toNat (rd (0:Int) (Do a w).2.2.2 (k:Int))) (rd (0:Int) g.2 (k:Int))),fun go=>?_,rfl,by simp only [List.length_set];exact hl4,inI_set il _ _ (Dr ig k (by omega))⟩
  unfold f150_l1
  simp only
  rw [dT,cond_true,Ab,Ab,Ab,Bp k]
 ·rintro ⟨_,l4⟩ ⟨rfl,hl4,il⟩
  refine ⟨l4,fun go=>?_,il⟩
  unfold f150_l1
  simp only
  rw [dF,cond_false]
theorem fold_in (a:Tn) (d:List Int):inI (foldS a d).2.2:=by
 unfold foldS
 split
 ·split
  ·exact fold_inI _ _ _ _
  ·exact Bm
 ·exact Bm
theorem both_in (f:Int→Int→Int) (hf:∀ x y,InR (f x y)) (a b:Tn):inI (Ep f a b).2.2:=by
 unfold Ep
 split
 ·split
  ·exact inI_tab (fun i hi=>hf _ _)
  ·exact Bm
 ·exact Bm
theorem scale_in (a:Tn) (k:Int):inI (scaleS a k).2.2:=by
 unfold scaleS
 split
 ·exact inI_tab (fun i hi=>Bt _)
 ·exact Bm
theorem unbent_in (k:Int) (t g:Tn):inI (unbentS k t g).2.2:=by
 unfold unbentS
 split
 ·split
  ·exact inI_tab (fun i hi=>Bt _)
  ·exact Bm
 ·exact Bm
theorem resh_in (a:Tn) (d:List Int) (ia:inI a.2):inI (reshS a d).2.2:=by
 unfold reshS
 split
 ·split
  ·exact ia
  ·exact Bm
 ·exact Bm
theorem ker_in (g a:Tn) (s w:Int):inI (kerS g a s w).2.2:=by
 unfold kerS
 split
 ·split
  ·split
   ·exact inI_tab (fun i hi=>Bt _)
   ·exact Bm
  ·exact Bm
 ·exact Bm
theorem foldedW (r:Int×Tn) (ir:inI r.2.2) (d:List Int):Tot (f143 (r.2.1,r.2.2) r.1 d):=by
 unfold f143
 by_cases h:r.1=0
 ·rw [nF h,cond_false]
  have e:f141 ((r.2.1,r.2.2).1,(r.2.1,r.2.2).2) d=some (foldS r.2 d):=foldP r.2 d ir
  rw [e];exact ⟨_,rfl,fold_in _ _⟩
 ·rw [nT h];exact Dl _
def OpOk (op K:Int) (ta tb t:Tn):Prop:=
 op=1∨((op=2∨op=3∨op=4∨op=9∨op=10∨op=11∨op=14)∧0<ta.2.length∧ta.2.length≤4096)∨(op=8∧0<prd ta.1∧0≤K∧K<ta.1.length)
  ∨(op=12∧ta.1.length=2∧tb.1.length=3)∨(op=13∧(Do ta K).1=0∧t.1=(Do ta K).2.1)
theorem new_in (d:List Int) (v:Int) (hv:InR v):∃ r,f75 d v=some r∧inI r.2.2:=by
 rw [new_ok]
 by_cases h:0<prd d
 ·rw [if_pos h];exact ⟨_,rfl,inI_rep _ _ hv⟩
 ·rw [if_neg h];exact ⟨_,rfl,Bm⟩
theorem forAW (n:Nd) (a b g:Tn) (h:OpOk n.1 n.2.2.2.1 a b n.2.2.2.2) (ia:inI a.2) (ib:inI b.2) (gg:Am g=true) (ig:inI g.2) (hd:g.1=n.2.2.2.2.1):Tot (f121 n a b g):=by
 obtain ⟨pg,lg,_,_⟩:=Aq gg
 have g0:InR (rd (0:Int) g.2 0):=Dr ig 0 (by omega)
 unfold f121 f121_j1
 rcases h with h | ⟨h,a1,a4⟩ | ⟨h,k0,k1,k2⟩ | ⟨h,k0,k1⟩ | ⟨h,k0,k1⟩
 ·rw [h];exact Dl _
 ·rcases h with h | h | h | h | h | h | h
  ·rw [h]
   have e:f141 (g.1,g.2) a.1=some (foldS g a.1):=foldP g a.1 ig
   show Tot (Ac (f141 (g.1,g.2) a.1) _)
   rw [e];exact ⟨_,rfl,fold_in _ _⟩
  ·rw [h]
   have e:f141 (g.1,g.2) a.1=some (foldS g a.1):=foldP g a.1 ig
   show Tot (Ac (f141 (g.1,g.2) a.1) _)
   rw [e];exact ⟨_,rfl,fold_in _ _⟩
  ·rw [h]
   have e:f142 (g.1,g.2) (b.1,b.2)=some (Ep El g b):=mulP g b ig ib
   show Tot (Ac (f142 (g.1,g.2) (b.1,b.2)) _)
   rw [e,Aa]
   obtain ⟨r,er,hr⟩:=foldedW (Ep El g b) (both_in El (fun x y=>Bt _) _ _) a.1
   rw [er];exact ⟨_,rfl,hr⟩
  ·rw [h]
   show Tot (Ad (0≤(0:Int)∧(0:Int)<(List.length g.2:Int)) _)
   rw [Ab]
   obtain ⟨r,er,hr⟩:=new_in a.1 _ g0
   rw [er];exact ⟨_,rfl,hr⟩
  ·rw [h]
   show Tot (Ad (0≤(0:Int)∧(0:Int)<(List.length g.2:Int)) _)
   unfold InR at g0
   rw [Ab,PlV.of_ok _ g0.1 g0.2,Aa]
   show Tot (Ac (f53 (PlV.pair (rd (0:Int) g.2 0)) (List.length a.2:Int)) _)
   rw [over_ok _ _ (by omega) (by omega) (by omega) (by omega) (by omega),Aa]
   obtain ⟨r,er,hr⟩:=new_in a.1 (sat (rdI (rd (0:Int) g.2 0) (a.2.length:Int))) (Bt _)
   rw [er];exact ⟨_,rfl,hr⟩
  ·rw [h]
   have e:f148 n.2.2.2.1 (a.1,a.2) (g.1,g.2)=some (unbentS n.2.2.2.1 a g):=unbentP n.2.2.2.1 a g ig
   show Tot (Ac (f148 n.2.2.2.1 (a.1,a.2) (g.1,g.2)) _)
   rw [e];exact ⟨_,rfl,unbent_in _ _ _⟩
  ·rw [h]
   have e:f151 (g.1,g.2) a.1=some (reshS g a.1):=reshP g a.1
   show Tot (Ac (f151 (g.1,g.2) a.1) _)
   rw [e];exact ⟨_,rfl,resh_in _ _ ig⟩
 ·rw [h]
  show Tot (Ac (f147 (g.1,g.2) a.1 n.2.2.2.1) _)
  obtain ⟨t,et,ht⟩:=spreadW g a.1 n.2.2.2.1 gg ig k0 k1 k2
  have et2:f147 (g.1,g.2) a.1 n.2.2.2.1=some t:=et
  rw [et2];exact ⟨_,rfl,ht⟩
 ·rw [h]
  show Tot (Ad (0≤(1:Int)∧(1:Int)<(List.length a.1:Int)) _)
  rw [Ab]
  obtain ⟨r,er,hr⟩:=backInW g b n.2.2.2.1 (rd (0:Int) a.1 1) ig ib
  have er2:f149 (g.1,g.2) (b.1,b.2) n.2.2.2.1 (rd (0:Int) a.1 1)=some r:=er
  rw [er2];exact ⟨_,rfl,hr⟩
 ·rw [h]
  show Tot (Ac (f150 (g.1,g.2) (a.1,a.2) n.2.2.2.1) _)
  obtain ⟨t,et,ht⟩:=pickedW g a n.2.2.2.1 k0 gg ig (by rw [hd];exact k1)
  have et2:f150 (g.1,g.2) (a.1,a.2) n.2.2.2.1=some t:=et
  rw [et2];exact ⟨_,rfl,ht⟩
theorem forBW (n:Nd) (a b g:Tn) (h:OpOk n.1 n.2.2.2.1 a b n.2.2.2.2) (ia:inI a.2) (ib:inI b.2) (ig:inI g.2):Tot (f122 n a b g):=by
 unfold f122
 rcases h with h | ⟨h,a1,a4⟩ | ⟨h,k0,k1,k2⟩ | ⟨h,k0,k1⟩ | ⟨h,k0,k1⟩
 ·rw [h];exact Dl _
 ·rcases h with h | h | h | h | h | h | h
  ·rw [h]
   have e:f141 (g.1,g.2) b.1=some (foldS g b.1):=foldP g b.1 ig
   show Tot (Ac (f141 (g.1,g.2) b.1) _)
   rw [e];exact ⟨_,rfl,fold_in _ _⟩
  ·rw [h]
   have e:f144 (g.1,g.2) (-4294967296)=some (scaleS g (-4294967296)):=scaleP g _ ig (by decide)
   show Tot (Ac (f144 (g.1,g.2) (-4294967296)) _)
   rw [e,Aa]
   obtain ⟨r,er,hr⟩:=foldedW (scaleS g (-4294967296)) (scale_in _ _) b.1
   rw [er];exact ⟨_,rfl,hr⟩
  ·rw [h]
   have e:f142 (g.1,g.2) (a.1,a.2)=some (Ep El g a):=mulP g a ig ia
   show Tot (Ac (f142 (g.1,g.2) (a.1,a.2)) _)
   rw [e,Aa]
   obtain ⟨r,er,hr⟩:=foldedW (Ep El g a) (both_in El (fun x y=>Bt _) _ _) b.1
   rw [er];exact ⟨_,rfl,hr⟩
  ·rw [h];exact Dl _
  ·rw [h];exact Dl _
  ·rw [h];exact Dl _
  ·rw [h];exact Dl _
 ·rw [h];exact Dl _
 ·rw [h]
  show Tot (Ad (0≤(2:Int)∧(2:Int)<(List.length b.1:Int)) _)
  rw [Ab]
  have e:f152 (g.1,g.2) (a.1,a.2) n.2.2.2.1 (rd (0:Int) b.1 2)=some (kerS g a n.2.2.2.1 (rd (0:Int) b.1 2)):=kerP g a _ _ ig ia
  rw [e];exact ⟨_,rfl,ker_in _ _ _ _⟩
 ·rw [h];exact Dl _
structure NW (l:List Nd) (i:Nat):Prop where
 nA:(gn l i).2.1<i
 nB:(gn l i).2.2.1<i
 nOp:OpOk (gn l i).1 (gn l i).2.2.2.1 (vl l (gn l i).2.1) (vl l (gn l i).2.2.1) (nd l i)
structure TW (l:List Nd):Prop where
 tL:l.length≤512
 tG:∀ i,i<l.length→Dv (nd l i)
 tN:∀ i,i<l.length→NW l i
theorem vl_in {l:List Nd} (hg:∀ i,i<l.length→Dv (nd l i)) (n:Int):inI (vl l n).2:=by
 unfold vl
 split
 ·exact (hg _ (by omega)).2
 ·exact Bm
theorem oneW {l:List Nd} (T:TW l) (i:Nat) (h:i<l.length) (g:Tn) (ig:inI g.2) :
  ∃ (e:Int) (ga gb:Tn),f77 l (i:Int) g=some (e,ga.1,ga.2,gb.1,gb.2,l)∧inI ga.2∧inI gb.2∧(e=0→Am g=true∧g.1=(nd l i).1):=by
 have hg:=T.tG
 unfold f77
 rw [atP l i h (hg i h),Aa]
 by_cases hgd:Am g=true∧g.1=(nd l i).1
 ·obtain ⟨gg,hd⟩:=hgd
  obtain ⟨_,_,l1,_⟩:=Aq gg
  have hj:f77_j2 g ((gn l i).1,(gn l i).2.1,(gn l i).2.2.1,(gn l i).2.2.2.1,true,(nd l i).1,(nd l i).2,l)=some (Sum.inl ()):=by
   unfold f77_j2 f77_j3
   simp only [Bool.not_true,cond_false]
   rw [show ((g.1,g.2):Tn)=g from rfl,At,gg,sameP _ _ (by omega),dT hd]
   rfl
  rw [hj,Aa,Ai]
  simp only
  rw [valueP l _ hg,Aa]
  simp only
  rw [valueP l _ hg,Aa]
  have N:=(T.tN i h).nOp
  have iA:=vl_in hg (gn l i).2.1
  have iB:=vl_in hg (gn l i).2.2.1
  obtain ⟨ra,ea,ha⟩:=forAW (gn l i) (vl l (gn l i).2.1) (vl l (gn l i).2.2.1) g N iA iB gg ig hd
  obtain ⟨rb,eb,hb⟩:=forBW (gn l i) (vl l (gn l i).2.1) (vl l (gn l i).2.2.1) g N iA iB ig
  have eA:f121 ((gn l i).1,(gn l i).2.1,(gn l i).2.2.1,(gn l i).2.2.2.1,(nd l i).1,(nd l i).2) ((vl l (gn l i).2.1).1,(vl l (gn l i).2.1).2) ((vl l (gn l i).2.2.1).1,(vl l (gn l i).2.2.1).2) (g.1,g.2)=some ra:=ea
  have eB:f122 ((gn l i).1,(gn l i).2.1,(gn l i).2.2.1,(gn l i).2.2.2.1,(nd l i).1,(nd l i).2) ((vl l (gn l i).2.1).1,(vl l (gn l i).2.1).2) ((vl l (gn l i).2.2.1).1,(vl l (gn l i).2.2.1).2) (g.1,g.2)=some rb:=eb
  rw [eA,Aa]
  by_cases e1:ra.1=0
  ·rw [nF e1,cond_false,eB,Aa]
   by_cases e2:rb.1=0
   ·rw [nF e2,cond_false]
    exact ⟨0,ra.2,rb.2,rfl,ha,hb,fun _=>⟨gg,hd⟩⟩
   ·rw [nT e2,cond_true]
    exact ⟨rb.1,noT,noT,rfl,Bm,Bm,fun h=>absurd h e2⟩
  ·rw [nT e1,cond_true]
   exact ⟨ra.1,noT,noT,rfl,Bm,Bm,fun h=>absurd h e1⟩
 ·have hj:f77_j2 g ((gn l i).1,(gn l i).2.1,(gn l i).2.2.1,(gn l i).2.2.2.1,true,(nd l i).1,(nd l i).2,l)=some (Sum.inr ()):=by
   unfold f77_j2 f77_j3
   simp only [Bool.not_true,cond_false]
   rw [show ((g.1,g.2):Tn)=g from rfl,At,Aa]
   by_cases gg:Am g=true
   ·obtain ⟨_,_,l1,_⟩:=Aq gg
    rw [gg,Bool.not_true,cond_false,sameP _ _ (by omega),dF (fun hd=>hgd ⟨gg,hd⟩)]
    rfl
   ·rw [show Am g=false by simpa using gg];rfl
  rw [hj,Aa,As]
  exact ⟨1,noT,noT,rfl,Bm,Bm,fun h=>absurd h (by decide)⟩
structure GW (root:Nat) (ls:List Tn) (gv:List Bool):Prop where
 w1:ls.length=root+1
 w2:gv.length=root+1
 wI:∀ i,i≤root→inI (rd Z2 ls (i:Int)).2
theorem giveW {root:Nat} {ls:List Tn} {gv:List Bool} (K:GW root ls gv) (n:Int) (hn:n≤root) (g:Tn) (ig:inI g.2) :
  ∃ (e:Int) (ls':List Tn) (gv':List Bool),f78 ls gv n g=some (e,ls',gv')∧GW root ls' gv'∧∀ j:Nat,j≤root→((j:Int)≠n→rd Z2 ls' (j:Int)=rd Z2 ls (j:Int)∧rd false gv' (j:Int)=rd false gv (j:Int))∧((j:Int)=n→rd false gv' (j:Int)=true):=by
 unfold f78
 by_cases h0:n<0
 ·rw [dT h0];exact ⟨0,ls,gv,rfl,K,fun j hj=>⟨fun _=>⟨rfl,rfl⟩,fun h=>by omega⟩⟩
 ·obtain ⟨i,rfl⟩:=Int.eq_ofNat_of_zero_le (show 0≤n by omega)
  have l1:=K.w1
  have l2:=K.w2
  rw [dF h0,cond_false,Ab]
  have ea:f123 ((rd (Ty.z (.p (.sl (.int .i64)) (.sl (.int .i64)))) ls (i:Int)).1,(rd (Ty.z (.p (.sl (.int .i64)) (.sl (.int .i64)))) ls (i:Int)).2) (g.1,g.2)=some (Ep addV (rd Z2 ls (i:Int)) g):=
   addP (rd Z2 ls (i:Int)) g (K.wI i (by omega)) ig
  rw [ea,Aa,Ab,Ab]
  refine ⟨_,_,_,rfl,⟨by simp only [List.length_set];exact l1,by simp only [List.length_set];exact l2,fun j hj=>?_⟩,fun j hj=>⟨fun hne=>?_,fun he=>?_⟩⟩
  ·simp only [Int.toNat_natCast]
   rw [rd_set _ _ _ _ _ (by omega)]
   split
   ·exact both_in addV (fun x y=>Bt _) _ _
   ·exact K.wI j hj
  ·simp only [Int.toNat_natCast]
   rw [rd_set _ _ _ _ _ (by omega),rd_set _ _ _ _ _ (by omega),iNo,iNo]
   exact ⟨rfl,rfl⟩
  ·simp only [Int.toNat_natCast]
   rw [rd_set _ _ _ _ _ (by omega),iPo]
structure SW (l:List Nd) (root k:Nat) (ls:List Tn) (gv:List Bool):Prop where
 sG:GW root ls gv
 sD:∀ i,i≤root→root<i+k→(((rd Z2 ls (i:Int)).2.length:Nat):Int)=prd (nd l i).1
 sZ:∀ i,i≤root→rd false gv (i:Int)=false→(((rd Z2 ls (i:Int)).2.length:Nat):Int)=prd (nd l i).1
theorem sweep_go {l:List Nd} (T:TW l) (root:Nat) (hr:root<l.length) (ls:List Tn) (gv:List Bool) (S:SW l root 0 ls gv) :
  ∃ z,Ag (fun go (x:Int×List Nd×List Tn×List Bool)=>f45_l2 go x.1 x.2.1 x.2.2.1 x.2.2.2) Ah ((root:Int),l,ls,gv)=some z∧
   ((∃ e,e≠0∧z=Sum.inl (e,l))∨∃ ls' gv',z=Sum.inr (ls',gv',l)∧SW l root (root+1) ls' gv'):=by
 have hl:=T.tL
 refine Bf (B:=fun go (x:Int×List Nd×List Tn×List Bool)=>f45_l2 go x.1 x.2.1 x.2.2.1 x.2.2.2)
  (fun x=>∃ (k:Nat) (ls:List Tn) (gv:List Bool),k≤root+1∧x=((root:Int)-(k:Int),l,ls,gv)∧SW l root k ls gv) (fun x=>(x.1+1).toNat) _ ?_ ((root:Int),l,ls,gv) ⟨0,ls,gv,by omega,by simp,S⟩ (by simp only;omega)
 rintro _ ⟨k,ls,gv,hk,rfl,S⟩
 have l1:=S.sG.w1
 have l2:=S.sG.w2
 by_cases hkk:k≤root
 ·have hn:(root:Int)-(k:Int)=((root-k:Nat):Int):=by omega
  have wn:IntKind.i64.wrap (((root-k:Nat):Int)-1)=(root:Int)-((k+1:Nat):Int):=by rw [Ae];omega
  cases hb:rd false gv ((root-k:Nat):Int)
  ·refine .inr ⟨((root:Int)-((k+1:Nat):Int),l,ls,gv),fun go=>?_,⟨k+1,ls,gv,by omega,rfl,S.sG,fun i hi h=>?_,S.sZ⟩,by simp only;omega⟩
   ·unfold f45_l2
    simp only
    rw [hn,dT,cond_true,Ab,hb,Bool.not_false,cond_true,wn]
   ·by_cases e:i=root-k
    ·subst e;exact S.sZ _ hi hb
    ·exact S.sD i hi (by omega)
  ·obtain ⟨e1,ga,gb,eo,ia,ib,ho⟩:=oneW T (root-k) (by omega) (rd Z2 ls ((root-k:Nat):Int)) (S.sG.wI _ (by omega))
   have eo2:f77 l ((root-k:Nat):Int) ((rd (Ty.z (.p (.sl (.int .i64)) (.sl (.int .i64)))) ls ((root-k:Nat):Int)).1,(rd (Ty.z (.p (.sl (.int .i64)) (.sl (.int .i64)))) ls ((root-k:Nat):Int)).2)=_:=eo
   have N:=T.tN (root-k) (by omega)
   have nA:=N.nA
   have nB:=N.nB
   have start:∀ go,f45_l2 go ((root:Int)-(k:Int)) l ls gv=bif (e1 != (0:Int)) then some (Sum.inl (e1,l)) else
    Ac (f78 ls gv (gn l (root-k)).2.1 (ga.1,ga.2)) fun r17=>
    bif (r17.1 != (0:Int)) then
     some (Sum.inl (r17.1,l))
    else
     Ac (f78 r17.2.1 r17.2.2 (gn l (root-k)).2.2.1 (gb.1,gb.2)) fun r18=>
     bif (r18.1 != (0:Int)) then
      some (Sum.inl (r18.1,l))
     else
      go ((root:Int)-((k+1:Nat):Int),l,r18.2.1,r18.2.2):=fun go=>by
    unfold f45_l2
    rw [hn,dT,cond_true,Ab,hb,Bool.not_true,cond_false,atP l (root-k) (by omega) (T.tG _ (by omega)),Aa,Ab]
    simp only
    rw [eo2,Aa,wn]
   by_cases h1:e1=0
   ·obtain ⟨gg,hd⟩:=ho h1
    obtain ⟨e2,ls2,gv2,q1,K2,f2⟩:=giveW S.sG (gn l (root-k)).2.1 (by omega) ga ia
    by_cases h2:e2=0
    ·obtain ⟨e3,ls3,gv3,q3,K3,f3⟩:=giveW K2 (gn l (root-k)).2.2.1 (by omega) gb ib
     by_cases h3:e3=0
     ·refine .inr ⟨((root:Int)-((k+1:Nat):Int),l,ls3,gv3),fun go=>?_,⟨k+1,ls3,gv3,by omega,rfl,K3,fun i hi h=>?_,fun i hi h=>?_⟩,by simp only;omega⟩
      ·simp only
       rw [start,nF h1,cond_false,show ((ga.1,ga.2):Tn)=ga from rfl,q1,Aa,nF h2,cond_false,show ((gb.1,gb.2):Tn)=gb from rfl]
       simp only
       rw [q3,Aa,nF h3,cond_false]
      ·rw [((f3 i hi).1 (by omega)).1,((f2 i hi).1 (by omega)).1]
       by_cases e:i=root-k
       ·subst e
        obtain ⟨_,hl,_,_⟩:=Aq gg
        rw [hl,hd]
       ·exact S.sD i hi (by omega)
      ·by_cases eb:(i:Int)=(gn l (root-k)).2.2.1
       ·rw [(f3 i hi).2 eb] at h;exact absurd h (by decide)
       ·obtain ⟨a,b⟩:=(f3 i hi).1 eb
        rw [b] at h
        rw [a]
        by_cases ea:(i:Int)=(gn l (root-k)).2.1
        ·rw [(f2 i hi).2 ea] at h;exact absurd h (by decide)
        ·obtain ⟨a',b'⟩:=(f2 i hi).1 ea
         rw [b'] at h
         rw [a']
         exact S.sZ i hi h
     ·refine .inl ⟨Sum.inl (e3,l),fun go=>?_,.inl ⟨e3,h3,rfl⟩⟩
      simp only
      rw [start,nF h1,cond_false,show ((ga.1,ga.2):Tn)=ga from rfl,q1,Aa,nF h2,cond_false,show ((gb.1,gb.2):Tn)=gb from rfl]
      simp only
      rw [q3,Aa,nT h3,cond_true]
    ·refine .inl ⟨Sum.inl (e2,l),fun go=>?_,.inl ⟨e2,h2,rfl⟩⟩
     simp only
     rw [start,nF h1,cond_false,show ((ga.1,ga.2):Tn)=ga from rfl,q1,Aa,nT h2,cond_true]
   ·refine .inl ⟨Sum.inl (e1,l),fun go=>?_,.inl ⟨e1,h1,rfl⟩⟩
    simp only
    rw [start,nT h1,cond_true]
 ·obtain rfl:k=root+1:=by omega
  refine .inl ⟨Sum.inr (ls,gv,l),fun go=>?_,.inr ⟨ls,gv,rfl,S⟩⟩
  unfold f45_l2
  simp only
  rw [dF,cond_false]
theorem sweep_begin (l:List Nd) (root:Nat) (hr:root<l.length) (hl:l.length≤512) (hg:∀ i,i<l.length→Dv (nd l i)) :
  Ag (fun go (x:Int×List Nd×List Tn×Int×List Int×List Int)=>f45_l1 (root:Int) go x.1 x.2.1 x.2.2.1 x.2.2.2.1 x.2.2.2.2.1 x.2.2.2.2.2) Ah ((0:Int),l,[],(0:Int),[],[])=some (l,D2 l root++[Z2],(root:Int),(zer l root).1,(zer l root).2):=by
 have wr:IntKind.i64.wrap ((root:Int)+1)=((root+1:Nat):Int):=by rw [Ae];omega
 have L1:=Ba (B:=fun go (x:Int×List Nd×List Tn×Int×List Int×List Int)=>f45_l1 (root:Int) go x.1 x.2.1 x.2.2.1 x.2.2.2.1 x.2.2.2.2.1 x.2.2.2.2.2) (sw1 l) (root+1) (sw1 l (root+1)).2 ?_ ?_ (by omega)
 ·exact L1
 ·intro k hk go
  have hgk:=hg k (by omega)
  obtain ⟨pk,_,_,_⟩:=Aq hgk.1
  have evk:vl l (k:Int)=nd l k:=by unfold vl;rw [iPo,Int.toNat_natCast]
  have en:f75 (nd l k).1 0=some (0,(zer l k).1,(zer l k).2):=by rw [new_ok,if_pos pk];rfl
  cases k with
  | zero=>
   show f45_l1 (root:Int) go 0 l [] 0 [] []=go (((0+1:Nat):Int),l,D2 l 0++[Z2],((0:Nat):Int),(zer l 0).1,(zer l 0).2)
   unfold f45_l1
   rw [show ((0:Nat):Int)=0 from rfl] at evk
   rw [wr,dT,cond_true,valueP l _ hg,Aa]
   simp only
   rw [evk,en,Aa,Ab (by simp)]
   rfl
  | succ j=>
   show f45_l1 (root:Int) go ((j+1:Nat):Int) l (D2 l j++[Z2]) (j:Int) (zer l j).1 (zer l j).2=go (((j+1+1:Nat):Int),l,D2 l (j+1)++[Z2],((j+1:Nat):Int),(zer l (j+1)).1,(zer l (j+1)).2)
   unfold f45_l1
   rw [wr,dT,cond_true,valueP l _ hg,Aa]
   simp only
   rw [evk,en,Aa]
   have es:List.set (D2 l j++[Z2]) (Int.toNat (j:Int)) ((zer l j).1,(zer l j).2)=D2 l (j+1):=by
    have:=set_last (D2 l j) Z2 ((zer l j).1,(zer l j).2)
    rw [Da] at this
    rw [Int.toNat_natCast,this,glist_succ]
   rw [es,Ab (by rw [Da];omega),Ae,Da]
   rfl
 ·intro go
  show f45_l1 (root:Int) go ((root+1:Nat):Int) l (D2 l root++[Z2]) (root:Int) (zer l root).1 (zer l root).2=_
  unfold f45_l1
  rw [wr,dF,cond_false]
  rfl
theorem sweepW {l:List Nd} (T:TW l) (root:Nat) (hr:root<l.length) :
  ∃ (e:Int) (ls:List Tn),f45 l (root:Int)=some (e,ls,l)∧(e=0→ls.length=root+1∧(∀ i,i≤root→(((rd Z2 ls (i:Int)).2.length:Nat):Int)=prd (nd l i).1)∧∀ i,i≤root→inI (rd Z2 ls (i:Int)).2):=by
 have hl:=T.tL
 have hg:=T.tG
 have hroot:=hg root hr
 obtain ⟨p0,lr,lr1,_⟩:=Aq hroot.1
 unfold f45
 rw [valueP l _ hg,Aa]
 have ev:vl l (root:Int)=nd l root:=by unfold vl;rw [iPo,Int.toNat_natCast]
 simp only [ev]
 rw [dT (show 0≤(root:Int)∧(root:Int)<l.length by omega),Bool.not_true,cond_false]
 by_cases h1:((nd l root).2.length:Int)>1
 ·rw [dT h1];exact ⟨4,[],rfl,fun h=>absurd h (by decide)⟩
 ·have wr:IntKind.i64.wrap ((root:Int)+1)=((root+1:Nat):Int):=by rw [Ae];omega
  have hp1:prd (nd l root).1=1:=by omega
  rw [dF h1,cond_false,wr,Ab,sweep_begin l root hr hl hg,Aa]
  simp only
  rw [Ab (by rw [List.length_append,Da];simp;omega),Ab trivial]
  have hz:(zer l root).2=[0]:=by unfold zer;rw [hp1];rfl
  rw [hz,Ab (by decide),Ab (by simp;omega)]
  have es:List.set (D2 l root++[Z2]) (Int.toNat (root:Int)) ((zer l root).1,List.set [(0:Int)] (Int.toNat (0:Int)) 4294967296)=D2 l root++[((nd l root).1,[4294967296])]:=by
   have:=set_last (D2 l root) Z2 ((zer l root).1,List.set [(0:Int)] (Int.toNat (0:Int)) 4294967296)
   rw [Da] at this
   rw [Int.toNat_natCast,this];rfl
  have eg:List.set (List.replicate (Int.toNat ((root+1:Nat):Int)) false) (Int.toNat (root:Int)) true=(List.replicate (root+1) false).set root true:=by
   rw [Int.toNat_natCast,Int.toNat_natCast]
  rw [es,eg]
  have K:=keeps0 l (fun _ g=>g) (fun _ g=>g) root hr hg hp1
  have kl:(D2 l root++[((nd l root).1,[4294967296])],(List.replicate (root+1) false).set root true)=swp l (fun _ g=>g) (fun _ g=>g) root 0:=rfl
  have S:SW l root 0 (D2 l root++[((nd l root).1,[4294967296])]) ((List.replicate (root+1) false).set root true):=by
   refine ⟨⟨K.l1,K.l2,fun i hi=>(K.ok i hi).1.2⟩,fun i hi h=>absurd h (by omega),fun i hi h=>?_⟩
   obtain ⟨q1,q2⟩:=K.ok i hi
   obtain ⟨_,q3,_,_⟩:=Aq q1.1
   rw [q2] at q3
   exact q3
  obtain ⟨z,ez,hz2⟩:=sweep_go T root hr _ _ S
  rw [ez,Aa]
  rcases hz2 with ⟨e,he,rfl⟩ | ⟨ls',gv',rfl,S'⟩
  ·exact ⟨e,[],rfl,fun h=>absurd h he⟩
  ·exact ⟨0,ls',rfl,fun _=>⟨S'.sG.w1,fun i hi=>S'.sD i hi (by omega),S'.sG.wI⟩⟩
def sideV (V:List Int) (D st v:Nat):Int:=sat (sg (fun k=>rd (0:Int) V ((ixs D st v k:Nat):Int)) D)
def hQ (d:List Int) (j:Nat):Nat→Int
 | 0=>1
 | t+1=>hQ d j t*rd (0:Int) d ((j+1+t:Nat):Int)
section
variable {d:List Int} {j H D st:Nat} (C:Cut d j H D st)
include C
theorem cut_len:(cutD d j).length=d.length-1:=by
 have:=C.hj
 unfold cutD;rw [List.length_append,List.length_take,List.length_drop];omega
end
def part (V:List Int) (D st k v:Nat):Int:=sg (fun i=>if goes D st i=v then rd (0:Int) V (i:Int) else 0) k
theorem part_bd {V:List Int} (iV:inI V) (D st v:Nat):∀ k,k≤V.length→-(k*9223372036854775808)≤part V D st k v∧part V D st k v≤k*9223372036854775808
 | 0,_=>by simp [part,sg]
 | k+1,h=>by
  have:=part_bd iV D st v k (by omega)
  have q:=Dr iV k (by omega)
  unfold InR at q
  unfold part at this ⊢
  simp only [sg]
  split <;> constructor <;> omega
section
variable (d V:List Int) (j H D st:Nat) (C:Cut d j H D st) (hV:V.length=H*(D*st)) (iV:inI V)
include C hV iV
theorem goes_in {i:Nat} (hi:i<H*(D*st)):goes D st i<H*st:=by
 have hs:=C.s1
 have h0:i/(st*D)<H:=by
  refine Nat.div_lt_of_lt_mul ?_
  rw [Nat.mul_comm (st*D) H,Nat.mul_comm st D];exact hi
 exact in_mat h0 (Nat.mod_lt _ hs)
theorem side_far (k v:Nat) (hk:k≤H*(D*st)):PlV.far (part V D st k v):=by
 have:=part_bd iV D st v k (by omega)
 have:=C.le
 unfold PlV.far
 omega
theorem side_loop1:Ag (fun go (x:Int×List (Int×Int))=>f208_l4 (d,V) (j:Int) (strL d) go x.1 x.2) Ah ((0:Int),List.replicate (H*st) ((0:Int),(0:Int)))=some (Ao (H*st) (fun v=>PlV.pair (part V D st (H*(D*st)) v))):=by
 have hj:=C.hj
 have hs:=C.s1
 have hD:=C.D1
 have hH:=C.H1
 have hle:=C.le
 have hsD:st*D≤4096:=by rw [Nat.mul_comm];exact Nat.le_trans (Nat.le_mul_of_pos_left _ hH) hle
 have h:=Ba (B:=fun go (x:Int×List (Int×Int))=>f208_l4 (d,V) (j:Int) (strL d) go x.1 x.2) (fun k=>((k:Int),Ao (H*st) (fun v=>PlV.pair (part V D st k v)))) (H*(D*st)) (Ao (H*st) (fun v=>PlV.pair (part V D st (H*(D*st)) v))) ?_ ?_ (by omega)
 ·have e0:Ao (H*st) (fun v=>PlV.pair (part V D st 0 v))=List.replicate (H*st) ((0:Int),(0:Int)):=by
   rw [Ej];exact Au _ _ _ (fun v hv=>rfl)
  rw [e0] at h;exact h
 ·intro k hk go
  have q:=Dr iV k (by omega)
  unfold InR at q
  have hg:=goes_in d V j H D st C hV iV hk
  have f1:=side_far d V j H D st C hV iV k (goes D st k) (by omega)
  have b1:=part_bd iV D st (goes D st k) k (by omega)
  have e7:rd (0:Int) (strL d) (j:Int)=(st:Int):=by
   unfold strL
   rw [Di _ _ _ _ hj]
   unfold strd
   rw [show d.length-(d.length-1-j)=j+1 by omega]
   exact C.eS
  have eSD:IntKind.i64.wrap ((st:Int)*(D:Int))=((st*D:Nat):Int):=wmul st D (by omega)
  have n0:((st*D:Nat):Int)≠0:=by have:1≤st*D:=Nat.mul_pos hs hD;omega
  have n1:(st:Int)≠0:=by omega
  have hM:=C.leM
  have ea:IntKind.i64.wrap (IntKind.i64.wrap (IntKind.i64.wrap (Int.tdiv (k:Int) ((st*D:Nat):Int))*(st:Int))+Int.tmod (k:Int) (st:Int))=((goes D st k:Nat):Int):=by
   have a1:k/(st*D)≤k:=Nat.div_le_self _ _
   have a2:k/(st*D)*st≤goes D st k:=Nat.le_add_right _ _
   rw [Int.tdiv_eq_ediv_of_nonneg (by omega),← Int.natCast_ediv,wnat (by omega),wmul _ _ (by omega),Int.tmod_eq_emod_of_nonneg (by omega),← Int.natCast_emod,wadd _ _ (by show goes D st k<_;omega)]
   rfl
  unfold f208_l4
  simp only [Ap]
  rw [e7,C.eD,eSD,ea,dT,cond_true,Ab,Ab,Ab n0,Ab n1,Ab,PlV.of_ok _ q.1 q.2,Aa]
  have er:rd (Ty.z (.p (.int .i64) (.int .u64))) (Ao (H*st) (fun v=>PlV.pair (part V D st k v))) ((goes D st k:Nat):Int)=PlV.pair (part V D st k (goes D st k)):=Di _ _ _ _ hg
  have f2:PlV.far (rd (0:Int) V (k:Int)):=by unfold PlV.far;omega
  have f3:PlV.far (part V D st k (goes D st k)+rd (0:Int) V (k:Int)):=by unfold PlV.far;omega
  have eadd:f31 ((rd (Ty.z (.p (.int .i64) (.int .u64))) (Ao (H*st) (fun v=>PlV.pair (part V D st k v))) ((goes D st k:Nat):Int)).1,(rd (Ty.z (.p (.int .i64) (.int .u64))) (Ao (H*st) (fun v=>PlV.pair (part V D st k v))) ((goes D st k:Nat):Int)).2) ((PlV.pair (rd (0:Int) V (k:Int))).1,(PlV.pair (rd (0:Int) V (k:Int))).2)=some (PlV.pair (part V D st k (goes D st k)+rd (0:Int) V (k:Int))):=by
   rw [er];exact PlV.add_w _ _ f1 f2 f3
  rw [eadd,Aa,Ab,Bp k,Int.toNat_natCast]
  congr 1
  refine Prod.ext rfl ?_
  show (Ao (H*st) (fun v=>PlV.pair (part V D st k v))).set (goes D st k) (PlV.pair (part V D st k (goes D st k)+rd (0:Int) V (k:Int)))=_
  rw [Dd]
  refine Au _ _ _ (fun v hv=>?_)
  by_cases e:v=goes D st k
  ·subst e
   rw [if_pos rfl]
   unfold part
   simp only [sg,if_true]
  ·rw [if_neg e]
   unfold part
   simp only [sg]
   rw [if_neg (fun h=>e h.symm),Int.add_zero]
 ·intro go
  unfold f208_l4
  simp only
  rw [dF,cond_false]
theorem side_loop2:Ag (fun go (x:Int×List Int)=>f208_l5 (Ao (H*st) (fun v=>PlV.pair (part V D st (H*(D*st)) v))) go x.1 x.2) Ah ((0:Int),List.replicate (H*st) 0)=some (Ao (H*st) (sideV V D st)):=by
 have hM:=C.leM
 rw [upto_zero _ (sideV V D st)]
 have h:=Ba (B:=fun go (x:Int×List Int)=>f208_l5 (Ao (H*st) (fun v=>PlV.pair (part V D st (H*(D*st)) v))) go x.1 x.2) (fun v=>((v:Int),upto (H*st) v (sideV V D st))) (H*st) (Ao (H*st) (sideV V D st)) ?_ ?_ (by omega)
 ·exact h
 ·intro v hv go
  unfold f208_l5
  simp only [De,Ap]
  have er:rd (Ty.z (.p (.int .i64) (.int .u64))) (Ao (H*st) (fun v=>PlV.pair (part V D st (H*(D*st)) v))) (v:Int)=PlV.pair (part V D st (H*(D*st)) v):=Di _ _ _ _ hv
  have ef:f84 ((rd (Ty.z (.p (.int .i64) (.int .u64))) (Ao (H*st) (fun v=>PlV.pair (part V D st (H*(D*st)) v))) (v:Int)).1,(rd (Ty.z (.p (.int .i64) (.int .u64))) (Ao (H*st) (fun v=>PlV.pair (part V D st (H*(D*st)) v))) (v:Int)).2)=some (sideV V D st v):=by
   rw [er]
   have:=PlV.fix_ok _ (side_far d V j H D st C hV iV (H*(D*st)) v (Nat.le_refl _))
   have es:part V D st (H*(D*st)) v=sg (fun k=>rd (0:Int) V ((ixs D st v k:Nat):Int)) D:=sums_eq (fun i=>rd (0:Int) V (i:Int)) H D st v C.s1 hv
   rw [es] at this ⊢
   exact this
  rw [dT,cond_true,Ab,ef,Aa,Ab,Bp v,Int.toNat_natCast,upto_set _ v _ _ hv rfl]
 ·intro go
  unfold f208_l5
  simp only [De,Ap]
  rw [dF,cond_false,upto_full]
end
abbrev Dm (a:Tn) (Aj:Int):Prop:=Am a=true∧0≤Aj∧Aj<a.1.length
def sideS (a:Tn) (Aj:Int):Int×Tn:=
 if Dm a Aj then (0,cutD a.1 Aj.toNat,Ao (prd (cutD a.1 Aj.toNat)).toNat (sideV a.2 (rd (0:Int) a.1 Aj).toNat (Bh (a.1.drop (Aj.toNat+1))).toNat)) else (1,[],[])
theorem side_j3 (a:Tn) (Aj:Int):f208_j3 a Aj=some (!(decide (Dm a Aj))):=by
 unfold f208_j3
 have e1:f119 (a.1,a.2)=some (Am a):=At a
 generalize hd:decide (Dm a Aj)=d
 rw [e1,Aa]
 by_cases ha:Am a=true
 ·rw [ha,Bool.not_true,cond_false]
  by_cases h1:Aj<0
  ·rw [dT h1];rw [dF (show ¬Dm a Aj from fun h=>by omega)] at hd;rw [← hd];rfl
  ·rw [dF h1,cond_false]
   by_cases h2:Aj≥a.1.length
   ·rw [dT h2];rw [dF (show ¬Dm a Aj from fun h=>by omega)] at hd;rw [← hd];rfl
   ·rw [dF h2];rw [dT (show Dm a Aj from ⟨ha,by omega,by omega⟩)] at hd;rw [← hd];rfl
 ·rw [show Am a=false by simpa using ha];rw [dF (show ¬Dm a Aj from fun h=>ha h.1)] at hd;rw [← hd];rfl
theorem side_val {a:Tn} {j H D st:Nat} (C:Cut a.1 j H D st) (h:Dm a (j:Int)):sideS a (j:Int)=(0,cutD a.1 j,Ao (H*st) (sideV a.2 D st)):=by
 unfold sideS
 rw [if_pos h,Int.toNat_natCast,C.eM,C.eD,C.eS,Int.toNat_natCast,Int.toNat_natCast,Int.toNat_natCast]
theorem sideP (a:Tn) (Aj:Int) (ia:inI a.2):f208 a Aj=some (sideS a Aj):=by
 unfold f208 f208_j2
 rw [side_j3,Aa]
 by_cases h:Dm a Aj
 ·obtain ⟨ga,s0,s1⟩:=h
  obtain ⟨j,rfl⟩:=Int.eq_ofNat_of_zero_le s0
  obtain ⟨hp,hl,l1,l2⟩:=Aq ga
  obtain ⟨H,D,st,C⟩:=cut_of hp (show j<a.1.length by omega)
  have hV:a.2.length=H*(D*st):=by have:=C.eN;omega
  have hM:=C.leM
  rw [side_val C ⟨ga,s0,s1⟩,dT (show Dm a (j:Int) from ⟨ga,s0,s1⟩),Bool.not_true,cond_false,Aa,Ai,Ab,Bp j,Ab]
  have ec:([]++List.take (Int.toNat (j:Int)) a.1)++List.drop (Int.toNat ((j+1:Nat):Int)) a.1=cutD a.1 j:=by
   rw [Int.toNat_natCast,Int.toNat_natCast,List.nil_append];rfl
  have cl:=cut_len C
  rw [Ab (by simp only [List.length_nil,List.length_take];omega),Ab (by simp only [List.length_append,List.length_nil,List.length_take,List.length_drop];omega),ec,PlB.size_ok,Aa,C.eM,Int.toNat_natCast,Ab,strides a.1 hp,Aa,
   Ab (by unfold strL;rw [Ap];omega)]
  have e1:Ag (fun go (x:Int×List (Int×Int))=>f208_l4 a (j:Int) (strL a.1) go x.1 x.2) Ah ((0:Int),List.replicate (H*st) (Ty.z (.p (.int .i64) (.int .u64))))=_:=side_loop1 a.1 a.2 j H D st C hV ia
  rw [e1,Aa,new_ok,if_pos C.posM,Aa,C.eM,Int.toNat_natCast]
  simp only
  rw [side_loop2 a.1 a.2 j H D st C hV ia,Aa]
 ·unfold sideS
  rw [if_neg h,dF h];rfl
end Go.Proofs.Cv
namespace Go.Proofs.Op
open Go.AM Go.Proofs.PlB Go.Proofs.PlW Go.Proofs.PlT Go.Proofs.PlS Go.Proofs.Sh Go.Proofs.Num Go.Proofs.Div
open Go.Proofs.PlR hiding Tn
section
variable (l:List Nd) (i:Nat)
end
open Go.AM Go.Proofs.PlB Go.Proofs.PlW Go.Proofs.PlT Go.Proofs.PlS Go.Proofs.Sh Go.Proofs.Num Go.Proofs.Div Go.Proofs.PlR
def cntK (op k:Int):Int:=if op=5∨op=8∨op=11∨op=12∨op=13 then k else 0
theorem cnt_ok (op k:Int):f138_j2 op k=some (cntK op k):=by
 unfold f138_j2 f175 cntK
 by_cases h1:op=5
 ·rw [bT h1,if_pos (.inl h1)];rfl
 rw [bF h1,cond_false]
 by_cases h2:op=8
 ·rw [bT h2,iPo];rfl
 rw [bF h2,cond_false]
 by_cases h3:op=11
 ·rw [bT h3,iPo];rfl
 rw [bF h3,cond_false]
 by_cases h4:op=12
 ·rw [bT h4,iPo];rfl
 rw [bF h4,cond_false]
 by_cases h5:op=13
 ·rw [bT h5,iPo];rfl
 rw [bF h5,iNo];rfl
def isTwo (op:Int):Bool:=decide (op=2∨op=3∨op=4∨op=6∨op=12)
theorem two_ok (op:Int):f174 op=some (isTwo op):=by
 unfold f174 isTwo
 by_cases h1:op=2
 ·rw [bT h1,dT (.inl h1)];rfl
 rw [bF h1,cond_false]
 by_cases h2:op=3
 ·rw [bT h2,dT];rfl
 rw [bF h2,cond_false]
 by_cases h3:op=4
 ·rw [bT h3,dT];rfl
 rw [bF h3,cond_false]
 by_cases h4:op=6
 ·rw [bT h4,dT];rfl
 rw [bF h4,cond_false]
 by_cases h5:op=12
 ·rw [bT h5,dT]
 rw [bF h5,dF]
end Go.Proofs.Op
namespace Go.Proofs.Cv
open Go.AM Go.Proofs.PlB Go.Proofs.PlW Go.Proofs.PlT Go.Proofs.PlS Go.Proofs.Sh Go.Proofs.Num Go.Proofs.Div Go.Proofs.Op
open Go.Proofs.PlR hiding Tn
theorem tabGood {d:List Int} {N:Nat} {g:Nat→Int} (h:0<prd d) (hN:(N:Int)=prd d) (hg:∀ i,i<N→InR (g i)):Dv (d,Ao N g):=
 ⟨tgood_of h (by simp only [Ap];exact hN),inI_tab hg⟩
theorem both_good (f:Int→Int→Int) (hf:∀ x y,InR (f x y)) (a b:Tn) (h:(Ep f a b).1=0):Dv (Ep f a b).2:=by
 unfold Ep at h ⊢
 by_cases c:Am a=true∧Am b=true
 ·rw [if_pos c] at h ⊢
  by_cases e:(jS a.1 b.1).1=0
  ·rw [if_pos e] at h ⊢
   have J:=jS_zero e
   have:=Av (jS a.1 b.1).2
   exact tabGood J.pd (by have:=J.pd;omega) (fun i hi=>hf _ _)
  ·rw [if_neg e] at h;exact absurd h e
 ·rw [if_neg c] at h;exact absurd h (by decide)
theorem bent_good (k:Int) (a:Tn) (ia:inI a.2) (h:(bentS k a).1=0):Dv (bentS k a).2:=by
 unfold bentS at h ⊢
 by_cases c:1≤k∧k≤5∧Am a=true
 ·rw [if_pos c] at h ⊢
  obtain ⟨p,q,_,_⟩:=Aq c.2.2
  exact tabGood p q (fun i hi=>bendV_in _ _ (Dr ia i hi))
 ·rw [if_neg c] at h;exact absurd h (by decide)
theorem resh_good (a:Tn) (d:List Int) (ia:inI a.2) (h:(reshS a d).1=0):Dv (reshS a d).2:=by
 unfold reshS at h ⊢
 by_cases c:Am a=true∧0<prd d
 ·rw [if_pos c] at h ⊢
  by_cases e:prd d=a.2.length
  ·rw [if_pos e] at h ⊢
   exact ⟨tgood_of c.2 e.symm,ia⟩
  ·rw [if_neg e] at h;exact absurd h (by decide)
 ·rw [if_neg c] at h;exact absurd h (by decide)
theorem row_good2 (a k:Tn) (s:Int) (h:(rowS a k s).1=0):Dv (rowS a k s).2:=by
 unfold rowS at h ⊢
 by_cases c:rowAsk a k s
 ·rw [if_pos c] at h ⊢
  by_cases e:rowFit a k
  ·rw [if_pos e] at h ⊢
   by_cases n0:0<prd [rd (0:Int) k.1 0,(Ar (rd (0:Int) a.1 1).toNat (rd (0:Int) k.1 2).toNat s.toNat:Int)]
   ·rw [if_pos n0] at h ⊢
    obtain ⟨h1,h2,h3⟩:=prod2 n0
    exact tabGood n0 (by rw [Int.natCast_mul,Int.toNat_of_nonneg (by omega),h3]) (fun i hi=>Bt _)
   ·rw [if_neg n0] at h;exact absurd h (by decide)
  ·rw [if_neg e] at h;exact absurd h (by decide)
 ·rw [if_neg c] at h;exact absurd h (by decide)
theorem side_good (a:Tn) (s:Int) (h:(sideS a s).1=0):Dv (sideS a s).2:=by
 unfold sideS at h ⊢
 by_cases c:Dm a s
 ·rw [if_pos c] at h ⊢
  obtain ⟨ga,s0,s1⟩:=c
  obtain ⟨hp,hl,l1,l2⟩:=Aq ga
  obtain ⟨H,D,st,C⟩:=cut_of hp (show s.toNat<a.1.length by omega)
  have:=C.posM
  exact tabGood C.posM (by omega) (fun i hi=>Bt _)
 ·rw [if_neg c] at h;exact absurd h (by decide)
theorem pool_good (a:Tn) (w:Int) (ia:inI a.2) (h:(Do a w).1=0):Dv ((Do a w).2.1,(Do a w).2.2.1):=by
 unfold Do at h ⊢
 by_cases c:Am a=true
 ·rw [if_pos c] at h ⊢
  by_cases e:a.1.length=2
  ·rw [if_pos e] at h ⊢
   by_cases f:1≤w∧w≤rd (0:Int) a.1 1
   ·rw [if_pos f] at h ⊢
    obtain ⟨cc,L,ea,c1,L1,la,ba⟩:=Em c e
    obtain ⟨w',rfl⟩:=Int.eq_ofNat_of_zero_le (show 0≤w by omega)
    clear h c e
    generalize a.2=V at *
    subst ea
    have fw:(w':Int)≤(L:Int):=f.2
    have w1:1≤w':=by omega
    obtain ⟨m1,mL,mN,hL⟩:=pool_m V cc L w' c1 w1 (by omega) la ba
    obtain ⟨p0,pN⟩:=prd_pos2 c1 m1 mN
    exact tabGood (d:=[(cc:Int),((L/w':Nat):Int)]) (N:=cc*(L/w')) (g:=plV V L w') p0 (by omega) (fun i hi=>Dr ia _ (pl_in V cc L w' c1 w1 (by omega) la ba hi))
   ·rw [if_neg f] at h;exact absurd h (by decide)
  ·rw [if_neg e] at h;exact absurd h (by decide)
 ·rw [if_neg c] at h;exact absurd h (by decide)
theorem single_go (v:Int):f209 v 0=some (0,[],[v]):=single_ok v
theorem gn_app (l m:List Nd) (i:Nat) (h:i<l.length):gn (l++m) i=gn l i:=by
 unfold gn
 rw [Bi _ _ _ (by rw [List.length_append];omega),Bi _ _ _ h,List.getElem_append_left h]
theorem gn_last (l:List Nd) (n:Nd):gn (l++[n]) l.length=n:=rd_last _ _ _
theorem vl_app (l m:List Nd) (n:Int) (h:n<l.length):vl (l++m) n=vl l n:=by
 unfold vl
 by_cases h0:0≤n
 ·rw [if_pos (by rw [List.length_append];omega),if_pos ⟨h0,h⟩,nd_app _ _ _ (by omega)]
 ·rw [if_neg (fun hh=>h0 hh.1),if_neg (fun hh=>h0 hh.1)]
theorem tw_nil:TW []:=⟨by simp,fun i h=>absurd h (by simp),fun i h=>absurd h (by simp)⟩
theorem tw_push {l:List Nd} (T:TW l) (n:Nd) (hl:l.length<512) (h:Dv n.2.2.2.2) (hA:n.2.1<l.length) (hB:n.2.2.1<l.length) (ho:OpOk n.1 n.2.2.2.1 (vl l n.2.1) (vl l n.2.2.1) n.2.2.2.2):TW (l++[n]):=by
 have hlen:(l++[n]).length=l.length+1:=by simp
 refine ⟨by omega,fun i hi=>?_,fun i hi=>?_⟩
 ·by_cases e:i<l.length
  ·rw [nd_app _ _ _ e];exact T.tG i e
  ·obtain rfl:i=l.length:=by omega
   rw [nd_last];exact h
 ·by_cases e:i<l.length
  ·obtain ⟨a,b,c⟩:=T.tN i e
   have eg:=gn_app l [n] i e
   refine ⟨by rw [eg];exact a,by rw [eg];exact b,?_⟩
   rw [eg,vl_app _ _ _ (by omega),vl_app _ _ _ (by omega),nd_app _ _ _ e]
   exact c
  ·obtain rfl:i=l.length:=by omega
   have eg:=gn_last l n
   refine ⟨by rw [eg];exact hA,by rw [eg];exact hB,?_⟩
   rw [eg,vl_app _ _ _ hA,vl_app _ _ _ hB,nd_last]
   exact ho
structure Nx (l m:List Nd) (i e:Int):Prop where
 xT:TW m
 xE:e≠0→m=l
 xO:e=0→i=l.length∧∃ n,m=l++[n]
theorem leafW {l:List Nd} (T:TW l) (x:Tn) (ix:inI x.2):∃ i e m,f107 l x=some (i,e,m)∧Nx l m i e∧(e=0→m=l++[(1,-1,-1,0,x.1,x.2)]∧Am x=true):=by
 have hl:=T.tL
 by_cases h:l.length<512
 ·by_cases g:Am x=true
  ·refine ⟨_,_,_,leaf_ok l x h g,⟨tw_push T _ h ⟨g,ix⟩ (by simp only;omega) (by simp only;omega) (.inl rfl),fun h=>absurd rfl h,fun _=>⟨rfl,_,rfl⟩⟩,fun _=>⟨rfl,g⟩⟩
  ·refine ⟨0,1,l,?_,⟨T,fun _=>rfl,fun h=>absurd h (by decide)⟩,fun h=>absurd h (by decide)⟩
   unfold f107
   have e:f119 (x.1,x.2)=some (Am x):=At x
   rw [dF,cond_false,e,show Am x=false by simpa using g];rfl
 ·refine ⟨0,2,l,?_,⟨T,fun _=>rfl,fun h=>absurd h (by decide)⟩,fun h=>absurd h (by decide)⟩
  unfold f107
  rw [dT];rfl
theorem side_ask (a:Tn) (k:Int) (h:(sideS a k).1=0):0<prd a.1∧0≤k∧k<a.1.length:=by
 unfold sideS at h
 by_cases c:Dm a k
 ·obtain ⟨ga,s0,s1⟩:=c
  exact ⟨(Aq ga).1,s0,s1⟩
 ·rw [if_neg c] at h;exact absurd h (by decide)
theorem row_ask (a b:Tn) (k:Int) (h:(rowS a b k).1=0):a.1.length=2∧b.1.length=3:=by
 unfold rowS at h
 by_cases c:rowAsk a b k
 ·rw [if_pos c] at h
  by_cases e:rowFit a b
  ·exact ⟨e.1,e.2.1⟩
  ·rw [if_neg e] at h;exact absurd h (by decide)
 ·rw [if_neg c] at h;exact absurd h (by decide)
def NOp (op:Int):Prop:=op=2∨op=3∨op=4∨op=8∨op=9∨op=10∨op=11∨op=12∨op=13∨op=14
theorem good_pos {a:Tn} (h:Dv a):0<a.2.length∧a.2.length≤4096:=by
 obtain ⟨a,b,_,c⟩:=Aq h.1
 exact ⟨by omega,c⟩
theorem pairW (op:Int) (a b:Tn) (k:Int) (ho:op=2∨op=3∨op=4∨op=12) (ga:Dv a) (gb:Dv b):∃ r:Int×Tn,f176 op a b k=some r∧(r.1=0→Dv r.2∧OpOk op (cntK op k) a b r.2):=by
 obtain ⟨p1,p2⟩:=good_pos ga
 rcases ho with rfl | rfl | rfl | rfl
 ·refine ⟨Ep addV a b,?_,fun h=>⟨both_good addV (fun x y=>Bt _) a b h,.inr (.inl ⟨.inl rfl,p1,p2⟩)⟩⟩
  show Ac (f123 a b) _=_
  rw [addP a b ga.2 gb.2];rfl
 ·refine ⟨Ep subV a b,?_,fun h=>⟨both_good subV (fun x y=>Bt _) a b h,.inr (.inl ⟨.inr (.inl rfl),p1,p2⟩)⟩⟩
  show Ac (f206 a b) _=_
  rw [subP a b ga.2 gb.2];rfl
 ·refine ⟨Ep El a b,?_,fun h=>⟨both_good El (fun x y=>Bt _) a b h,.inr (.inl ⟨.inr (.inr (.inl rfl)),p1,p2⟩)⟩⟩
  show Ac (f142 a b) _=_
  rw [mulP a b ga.2 gb.2];rfl
 ·refine ⟨rowS a b k,?_,fun h=>⟨row_good2 a b k h,.inr (.inr (.inr (.inl ⟨rfl,row_ask a b k h⟩)))⟩⟩
  show Ac (f207 a b k) _=_
  rw [rowP a b k ga.2 gb.2];rfl
theorem oneWf (op:Int) (a tb:Tn) (k:Int) (ho:op=8∨op=9∨op=10∨op=11∨op=13∨op=14) (ga:Dv a):∃ r:Int×Tn,f177 op a k=some r∧(r.1=0→Dv r.2∧OpOk op (cntK op k) a tb r.2):=by
 obtain ⟨p1,p2⟩:=good_pos ga
 rcases ho with rfl | rfl | rfl | rfl | rfl | rfl
 ·refine ⟨sideS a k,?_,fun h=>⟨side_good a k h,.inr (.inr (.inl ⟨rfl,side_ask a k h⟩))⟩⟩
  show Ac (f208 a k) _=_
  rw [sideP a k ga.2];rfl
 ·refine ⟨(0,[],[sat (sumL a.2)]),?_,fun _=>⟨⟨rfl,fun y hy=>by rw [List.mem_singleton.1 hy];exact Bt _⟩,.inr (.inl ⟨.inr (.inr (.inr (.inl rfl))),p1,p2⟩)⟩⟩
  show Ac (f210 a) _=_
  rw [allP a ga.2 ga.1,Aa]
  simp only
  rw [single_go];rfl
 ·refine ⟨(0,[],[sat (rdI (sumL a.2) a.2.length)]),?_,fun _=>⟨⟨rfl,fun y hy=>by rw [List.mem_singleton.1 hy];exact Bt _⟩,.inr (.inl ⟨.inr (.inr (.inr (.inr (.inl rfl)))),p1,p2⟩)⟩⟩
  show Ac (f211 a) _=_
  rw [meanP a ga.2 ga.1,Aa]
  simp only
  rw [single_go];rfl
 ·refine ⟨bentS k a,?_,fun h=>⟨bent_good k a ga.2 h,.inr (.inl ⟨.inr (.inr (.inr (.inr (.inr (.inl rfl))))),p1,p2⟩)⟩⟩
  show Ac (f212 k a) _=_
  rw [bentP k a ga.2];rfl
 ·refine ⟨((Do a k).1,(Do a k).2.1,(Do a k).2.2.1),?_,fun h=>⟨pool_good a k ga.2 h,.inr (.inr (.inr (.inr ⟨rfl,h,rfl⟩)))⟩⟩
  show Ac (f194 a k) _=_
  rw [poolP a k];rfl
 ·refine ⟨reshS a [(a.2.length:Int)],?_,fun h=>⟨resh_good a _ ga.2 h,.inr (.inl ⟨.inr (.inr (.inr (.inr (.inr (.inr rfl))))),p1,p2⟩)⟩⟩
  show Ac (f151 a [(a.2.length:Int)]) _=_
  rw [reshP];rfl
theorem doW {l:List Nd} (T:TW l) (op a b k:Int) (ho:NOp op):∃ i e m,f138 l op a b k=some (i,e,m)∧Nx l m i e:=by
 have hl:=T.tL
 have o1:2≤op∧op≤14:=by unfold NOp at ho;omega
 by_cases h:l.length<512
 ·by_cases c:0≤a∧a<l.length∧(isTwo op=true→0≤b∧b<l.length)
  ·obtain ⟨a0,a1,hb⟩:=c
   obtain ⟨A,rfl⟩:=Int.eq_ofNat_of_zero_le a0
   have hA:A<l.length:=by omega
   have gA:0≤(A:Int)∧(A:Int)<(l.length:Int):=by omega
   have eA:vl l (A:Int)=nd l A:=vl_nat l A hA
   have hj1P:f138_j1 l op A b=some (Sum.inl l):=by
    unfold f138_j1
    rw [dF,dF,dF,hasP,dT gA,two_ok]
    simp only [cond_false,Aa,Bool.not_true]
    cases ht:isTwo op
    ·rfl
    ·rw [cond_true,hasP,dT (hb ht)];rfl
   have main:∃ (r:Int×Tn) (bn:Int),f138_j3 op A b k l=some (r.1,bn,r.2.1,r.2.2)∧bn<l.length∧(r.1=0→Dv r.2∧OpOk op (cntK op k) (nd l A) (vl l bn) r.2):=by
    cases ht:isTwo op
    ·have:¬(op=2∨op=3∨op=4∨op=6∨op=12):=by unfold isTwo at ht;exact of_decide_eq_false ht
     obtain ⟨r,e1,e2⟩:=oneWf op (nd l A) (vl l (-1)) k (by unfold NOp at ho;omega) (T.tG A hA)
     refine ⟨r,-1,?_,by omega,e2⟩
     unfold f138_j3
     unfold nd at e1
     rw [two_ok,ht,Aa,cond_false,Ab gA,e1];rfl
    ·have:op=2∨op=3∨op=4∨op=6∨op=12:=by unfold isTwo at ht;exact of_decide_eq_true ht
     have gB:=hb ht
     obtain ⟨B,rfl⟩:=Int.eq_ofNat_of_zero_le gB.1
     have hB:B<l.length:=by omega
     obtain ⟨r,e1,e2⟩:=pairW op (nd l A) (nd l B) k (by unfold NOp at ho;omega) (T.tG A hA) (T.tG B hB)
     refine ⟨r,(B:Int),?_,by omega,by rw [vl_nat l B hB];exact e2⟩
     unfold f138_j3
     unfold nd at e1
     rw [two_ok,ht,Aa,cond_true,Ab gA,Ab gB,e1];rfl
   obtain ⟨r,bn,m1,m2,m3⟩:=main
   unfold f138
   rw [hj1P,Aa,Ai,cnt_ok,Aa,m1,Aa]
   by_cases er:r.1=0
   ·obtain ⟨g1,g2⟩:=m3 er
    rw [nF er,cond_false,push_ok _ _ h]
    exact ⟨_,_,_,rfl,⟨tw_push T _ h g1 (by simp only;omega) m2 (by simp only;rw [eA];exact g2),fun h=>absurd rfl h,fun _=>⟨rfl,_,rfl⟩⟩⟩
   ·rw [nT er]
    exact ⟨_,_,_,rfl,⟨T,fun _=>rfl,fun h=>absurd h er⟩⟩
  ·refine ⟨0,1,l,?_,⟨T,fun _=>rfl,fun h=>absurd h (by decide)⟩⟩
   have hj1P:f138_j1 l op a b=some (Sum.inr (1,l)):=by
    unfold f138_j1
    rw [dF,cond_false,dF,cond_false,dF,cond_false,hasP,Aa]
    by_cases c3:0≤a∧a<l.length
    ·rw [dT c3,Bool.not_true,cond_false,two_ok,Aa]
     cases ht:isTwo op
     ·exact absurd ⟨c3.1,c3.2,fun h=>absurd (ht.symm.trans h) (by decide)⟩ c
     ·rw [cond_true,hasP,Aa]
      by_cases c4:0≤b∧b<l.length
      ·exact absurd ⟨c3.1,c3.2,fun _=>c4⟩ c
      ·rw [dF c4];rfl
    ·rw [dF c3];rfl
   unfold f138
   rw [hj1P];rfl
 ·refine ⟨0,2,l,?_,⟨T,fun _=>rfl,fun h=>absurd h (by decide)⟩⟩
  have hj1P:f138_j1 l op a b=some (Sum.inr (2,l)):=by
   unfold f138_j1
   rw [dT];rfl
  unfold f138
  rw [hj1P];rfl
structure SOk (l m:List Nd) (i e:Int):Prop where
 oT:TW m
 oX:∃ s,m=l++s
 oI:e=0→i=(m.length:Int)-1∧l.length<m.length
theorem nx_ok {l0 l m:List Nd} {i e:Int} (hx:∃ s,l=l0++s) (N:Nx l m i e):SOk l0 m i e:=by
 obtain ⟨s,rfl⟩:=hx
 refine ⟨N.xT,?_,fun h=>?_⟩
 ·by_cases h:e=0
  ·obtain ⟨_,n,hn⟩:=N.xO h
   exact ⟨s++[n],by rw [hn,List.append_assoc]⟩
  ·exact ⟨s,N.xE h⟩
 ·obtain ⟨hi,n,hn⟩:=N.xO h
  rw [hn,hi]
  simp only [List.length_append,List.length_cons,List.length_nil]
  omega
def Goes (l0:List Nd) (was:Int) (p:Option (Int×Int×Int×List Nd)):Prop:=∃ i e m,p=some (i,was,e,m)∧SOk l0 m i e
theorem Ek {l0 l:List Nd} {i0 e0:Int} (was:Int) (e:Int) (T:TW l) (hx:∃ s,l=l0++s) (v:List Int) (iv:inI v):Goes l0 was (f113 l was e v):=by
 unfold f113
 by_cases h:e=0
 ·rw [nF h,cond_false]
  obtain ⟨i,e',m,q,N,_⟩:=leafW T ([(List.length v:Int)],v) iv
  rw [q];exact ⟨_,_,_,rfl,nx_ok hx N⟩
 ·rw [nT h];exact ⟨_,_,_,rfl,T,hx,fun hh=>absurd hh h⟩
theorem Bq {l0 l:List Nd} (was:Int) (e:Int) (T:TW l) (hx:∃ s,l=l0++s) (op a b k:Int) (ho:NOp op):Goes l0 was (f112 l was e op a b k):=by
 unfold f112
 by_cases h:e=0
 ·rw [nF h,cond_false]
  obtain ⟨i,e',m,q,N⟩:=doW T op a b k ho
  rw [q];exact ⟨_,_,_,rfl,nx_ok hx N⟩
 ·rw [nT h];exact ⟨_,_,_,rfl,T,hx,fun hh=>absurd hh h⟩
theorem cut_any (l:List Nd) (n:Int):∃ m,f71 l n=some m:=by
 unfold f71
 have g:0≤(if (List.length l:Int)<(if (0:Int)>n then (0:Int) else n) then (List.length l:Int) else (if (0:Int)>n then (0:Int) else n))∧(if (List.length l:Int)<(if (0:Int)>n then (0:Int) else n) then (List.length l:Int) else (if (0:Int)>n then (0:Int) else n))≤(List.length l:Int):=by
  split <;> split <;> omega
 rw [Ab g];exact ⟨_,rfl⟩
def Far (l:List Nd) (p:Option (Int×Int×List Nd)):Prop:=∃ i e m,p=some (i,e,m)∧(e=0→SOk l m i 0)
theorem toldW {l m:List Nd} {i e:Int} (was:Int) (S:SOk l m i e):∃ i' e' m':_,∃ w e2:Int,f114 m was e i=some (i',e',w,e2,m')∧(e'=0→SOk l m' i' 0):=by
 unfold f114
 by_cases h:e=0
 ·rw [nF h,cond_false];exact ⟨_,_,_,_,_,rfl,fun _=>⟨S.oT,S.oX,fun _=>S.oI h⟩⟩
 ·obtain ⟨m',q⟩:=cut_any m was
  rw [nT h,cond_true,q];exact ⟨_,_,_,_,_,rfl,fun hh=>absurd hh h⟩
theorem mayW {l:List Nd} (T:TW l) (out:Int) (want:List Int):∃ e,f110 l out want=some (e,l):=by
 unfold f110 f110_j1
 rw [valueP l out T.tG,Aa]
 simp only
 cases decide (0≤out∧out<l.length)
 ·exact ⟨_,rfl⟩
 ·rw [Bool.not_true,cond_false,Aa]
  cases ((List.length want:Int) != (List.length (vl l out).2:Int))
  ·rw [cond_false]
   cases ((List.length (vl l out).1:Int) != (1:Int))
   ·exact ⟨_,rfl⟩
   ·exact ⟨_,rfl⟩
  ·exact ⟨_,rfl⟩
theorem squareW {l:List Nd} (T:TW l) (out:Int) (want:List Int) (iw:inI want):Far l (f72 l out want):=by
 unfold f72
 obtain ⟨e,q⟩:=mayW T out want
 rw [q,Aa]
 by_cases h:e=0
 ·rw [nF h,cond_false]
  show Far l (Ac (some ((List.length l:Int),l)) _)
  rw [Aa]
  simp only
  obtain ⟨i3,e3,m3,q3,s3⟩:=Ek (l0:=l) (i0:=0) (e0:=0) (List.length l:Int) 0 T ⟨[],by simp⟩ want iw
  rw [q3,Aa]
  simp only
  obtain ⟨i4,e4,m4,q4,s4⟩:=Bq (List.length l:Int) e3 s3.oT s3.oX 3 out i3 0 (by unfold NOp;omega)
  rw [q4,Aa]
  simp only
  obtain ⟨i5,e5,m5,q5,s5⟩:=Bq (List.length l:Int) e4 s4.oT s4.oX 4 i4 i4 0 (by unfold NOp;omega)
  rw [q5,Aa]
  simp only
  obtain ⟨i6,e6,m6,q6,s6⟩:=Bq (List.length l:Int) e5 s5.oT s5.oX 10 i5 0 0 (by unfold NOp;omega)
  rw [q6,Aa]
  simp only
  obtain ⟨i7,e7,m7,w7,x7,q7,s7⟩:=toldW (List.length l:Int) s6
  rw [q7,Aa]
  exact ⟨_,_,_,rfl,s7⟩
 ·rw [nT h,cond_true];exact ⟨_,_,_,rfl,fun hh=>absurd hh h⟩
theorem sizeW {l:List Nd} (T:TW l) (out:Int) (want:List Int) (iw:inI want):Far l (f73 l out want):=by
 unfold f73
 obtain ⟨e,q⟩:=mayW T out want
 rw [q,Aa]
 by_cases h:e=0
 ·rw [nF h,cond_false]
  show Far l (Ac (some ((List.length l:Int),l)) _)
  rw [Aa]
  simp only
  obtain ⟨i3,e3,m3,q3,s3⟩:=Ek (l0:=l) (i0:=0) (e0:=0) (List.length l:Int) 0 T ⟨[],by simp⟩ want iw
  rw [q3,Aa]
  simp only
  obtain ⟨i4,e4,m4,q4,s4⟩:=Bq (List.length l:Int) e3 s3.oT s3.oX 3 out i3 0 (by unfold NOp;omega)
  rw [q4,Aa]
  simp only
  obtain ⟨i5,e5,m5,q5,s5⟩:=Bq (List.length l:Int) e4 s4.oT s4.oX 11 i4 0 4 (by unfold NOp;omega)
  rw [q5,Aa]
  simp only
  obtain ⟨i6,e6,m6,q6,s6⟩:=Bq (List.length l:Int) e5 s5.oT s5.oX 10 i5 0 0 (by unfold NOp;omega)
  rw [q6,Aa]
  simp only
  obtain ⟨i7,e7,m7,w7,x7,q7,s7⟩:=toldW (List.length l:Int) s6
  rw [q7,Aa]
  exact ⟨_,_,_,rfl,s7⟩
 ·rw [nT h,cond_true];exact ⟨_,_,_,rfl,fun hh=>absurd hh h⟩
theorem hinge_j (c:Int) (r:Bool×(List Int)×(List Int)×(List Nd)):(∃ e,e≠0∧f74_j1 c r=some (Sum.inr e))∨(f74_j1 c r=some (Sum.inl ())∧r.1=true∧0≤c∧c<r.2.2.1.length):=by
 unfold f74_j1
 cases h:r.1
 ·exact .inl ⟨1,by decide,rfl⟩
 ·rw [Bool.not_true,cond_false]
  cases ((List.length r.2.1:Int) != (1:Int))
  ·rw [cond_false]
   by_cases h1:c<0
   ·rw [dT h1];exact .inl ⟨4,by decide,rfl⟩
   ·rw [dF h1,cond_false]
    by_cases h2:c≥(List.length r.2.2.1:Int)
    ·rw [dT h2];exact .inl ⟨4,by decide,rfl⟩
    ·rw [dF h2];exact .inr ⟨rfl,rfl,by omega,by omega⟩
  ·exact .inl ⟨4,by decide,rfl⟩
theorem hingeW {l:List Nd} (T:TW l) (out:Int) (c:Int):Far l (f74 l out c):=by
 unfold f74
 rw [valueP l out T.tG,Aa]
 rcases hinge_j c (decide (0≤out∧out<l.length),(vl l out).1,(vl l out).2,l) with ⟨e,he,q⟩ | ⟨q,h1,h2,h3⟩
 ·rw [q,Aa,As];exact ⟨_,_,_,rfl,fun hh=>absurd hh he⟩
 ·have ho:=of_decide_eq_true h1
  have ev:vl l out=nd l out.toNat:=by unfold vl;rw [if_pos ho]
  have hg:=T.tG out.toNat (by omega)
  rw [← ev] at hg
  obtain ⟨gp,gl,_,gl2⟩:=Aq hg.1
  have h3':c<(vl l out).2.length:=h3
  rw [q,Aa,Ai]
  simp only
  rw [new_ok,if_pos gp,Aa,repeat_ok _ _ gl2,Aa]
  simp only
  rw [Ab (by rw [List.length_replicate];omega),Ab (by rw [List.length_replicate];omega)]
  show Far l (Ac (some ((List.length l:Int),l)) _)
  rw [Aa]
  simp only
  obtain ⟨i3,e3,m3,q3,s3⟩:=Ek (l0:=l) (i0:=0) (e0:=0) (List.length l:Int) 0 T ⟨[],by simp⟩ (List.set (List.replicate (prd (vl l out).1).toNat 0) (Int.toNat c) (-4294967296)) (inI_set (inI_rep _ _ (by decide)) _ _ (by decide))
  rw [q3,Aa]
  simp only
  obtain ⟨i4,e4,m4,q4,s4⟩:=Ek (i0:=0) (e0:=0) (List.length l:Int) e3 s3.oT s3.oX (List.set (List.replicate (vl l out).2.length 4294967296) (Int.toNat c) 0) (inI_set (inI_rep _ _ (by decide)) _ _ (by decide))
  rw [q4,Aa]
  simp only
  obtain ⟨i5,e5,m5,q5,s5⟩:=Bq (List.length l:Int) e4 s4.oT s4.oX 4 out i3 0 (by unfold NOp;omega)
  rw [q5,Aa]
  simp only
  obtain ⟨i6,e6,m6,q6,s6⟩:=Bq (List.length l:Int) e5 s5.oT s5.oX 9 i5 0 0 (by unfold NOp;omega)
  rw [q6,Aa]
  simp only
  obtain ⟨i7,e7,m7,q7,s7⟩:=Bq (List.length l:Int) e6 s6.oT s6.oX 2 out i6 0 (by unfold NOp;omega)
  rw [q7,Aa]
  simp only
  obtain ⟨i8,e8,m8,q8,s8⟩:=Bq (List.length l:Int) e7 s7.oT s7.oX 2 i7 i4 0 (by unfold NOp;omega)
  rw [q8,Aa]
  simp only
  obtain ⟨i9,e9,m9,q9,s9⟩:=Bq (List.length l:Int) e8 s8.oT s8.oX 11 i8 0 1 (by unfold NOp;omega)
  rw [q9,Aa]
  simp only
  obtain ⟨ia,ea,ma,qa,sa⟩:=Bq (List.length l:Int) e9 s9.oT s9.oX 4 i9 i4 0 (by unfold NOp;omega)
  rw [qa,Aa]
  simp only
  obtain ⟨ib,eb,mb,qb,sb⟩:=Bq (List.length l:Int) ea sa.oT sa.oX 9 ia 0 0 (by unfold NOp;omega)
  rw [qb,Aa]
  simp only
  obtain ⟨ic,ec,mc,w7,x7,qc,sc⟩:=toldW (List.length l:Int) sb
  rw [qc,Aa]
  exact ⟨_,_,_,rfl,sc⟩
theorem farW {l:List Nd} (T:TW l) (kind out:Int) (x:List Int×List Int×Int) (ix:inI x.2.1):Far l (f44 l kind out x):=by
 unfold f44
 cases (kind==(1:Int))
 ·rw [cond_false]
  cases (kind==(2:Int))
  ·rw [cond_false]
   obtain ⟨i,e,m,q,s⟩:=hingeW T out x.2.2
   rw [q];exact ⟨_,_,_,rfl,s⟩
  ·obtain ⟨i,e,m,q,s⟩:=sizeW T out x.2.1 ix
   rw [cond_true,q];exact ⟨_,_,_,rfl,s⟩
 ·obtain ⟨i,e,m,q,s⟩:=squareW T out x.2.1 ix
  rw [cond_true,q];exact ⟨_,_,_,rfl,s⟩
abbrev Lay:=ByteArray×Int×Int
abbrev Nt:=(List Int)×(List Lay)
abbrev zLay:Lay:=Ty.z (.p .str (.p (.int .i64) (.int .i64)))
abbrev zL:List Int:=Ty.z (.sl (.int .i64))
def ly (n:Nt) (i:Nat):Lay:=rd zLay n.2 (i:Int)
def kd (b:ByteArray) (l:Lay):Bool:=(ByteArray.toList l.1==ByteArray.toList b)
abbrev bDense:ByteArray:=ByteArray.mk #[100,101,110,115,101]
abbrev bConv:ByteArray:=ByteArray.mk #[99,111,110,118]
abbrev bPool:ByteArray:=ByteArray.mk #[112,111,111,108]
theorem prod_any (d:List Int) (hl:d.length≤1000000):∃ v,f66 d=some v:=by
 unfold f66
 have LL:=Ds (B:=fun go (x:Int×Int)=>f66_l1 d go x.1 x.2) (fun k x=>x.2=(k:Int)) (fun _=>True) d.length ((1:Int),(0:Int)) rfl ?_ ?_ (by omega)
 ·obtain ⟨z,ez,_⟩:=LL
  rw [ez];exact ⟨_,rfl⟩
 ·rintro k hk ⟨v,_⟩ rfl
  refine ⟨(IntKind.i64.wrap (v*rd (0:Int) d (k:Int)),((k+1:Nat):Int)),fun go=>?_,rfl⟩
  unfold f66_l1
  simp only
  rw [dT,cond_true,Ab,Bp k]
 ·rintro ⟨v,_⟩ rfl
  refine ⟨v,fun go=>?_,trivial⟩
  unfold f66_l1
  simp only
  rw [dF,cond_false]
theorem prod_ok {d:List Int} (h:0<prd d):f66 d=some (prd d):=by
 obtain ⟨e,h1,h2⟩:=B5 h
 have hr:=Av d
 unfold f66
 have L:=Ba (B:=fun go (x:Int×Int)=>f66_l1 d go x.1 x.2) (fun k=>(Bh (d.take k),(k:Int))) d.length (prd d) ?_ ?_ (by omega)
 ·have L':Ag (fun go (x:Int×Int)=>f66_l1 d go x.1 x.2) Ah ((1:Int),(0:Int))=_:=L
  rw [L'];rfl
 ·intro k hk go
  obtain ⟨p1,p2⟩:=prodL_le (fun x hx=>(h1 x hx).1) (k+1)
  unfold f66_l1
  simp only
  rw [dT,cond_true,Ab,Bp k,← prodL_take k hk,Ae]
 ·intro go
  unfold f66_l1
  simp only
  rw [dF,cond_false,List.take_length,e]
def pls (l:Lay) (d:List Int):List (List Int):=
 bif kd bDense l then [[l.2.1,(f66 d).getD 0],[l.2.1]] else bif kd bConv l then [[l.2.1,rd (0:Int) d 0,l.2.2]] else []
theorem pls_len (l:Lay) (d:List Int):(pls l d).length≤2:=by
 unfold pls
 cases kd bDense l
 ·cases kd bConv l
  ·exact Nat.zero_le _
  ·exact Nat.le_succ 1
 ·exact Nat.le_refl 2
theorem pls_ok (l:Lay) (d:List Int) (hl:d.length≤2) (hc:kd bConv l=true→d.length=2):f65 l d=some (pls l d):=by
 obtain ⟨v,ev⟩:=prod_any d (by omega)
 unfold f65 pls
 show (bif kd bDense l then _ else bif kd bConv l then _ else _)=_
 rw [ev]
 cases kd bDense l
 ·rw [cond_false,cond_false]
  cases h:kd bConv l
  ·rfl
  ·have:=hc h
   rw [cond_true,cond_true,Ab]
 ·rfl
theorem counts_any (b:ByteArray):∃ v,f136 b=some v:=by
 unfold f136 f136_j1
 cases (ByteArray.toList b==ByteArray.toList bDense) <;> cases (ByteArray.toList b==ByteArray.toList bPool) <;> cases (ByteArray.toList b==ByteArray.toList (ByteArray.mk #[98,101,110,100])) <;> cases (ByteArray.toList b==ByteArray.toList bConv) <;> cases (ByteArray.toList b==ByteArray.toList (ByteArray.mk #[115,107,105,112])) <;> exact ⟨_,rfl⟩
theorem Dh (v m:Int):f103 v m=some (decide (1≤v∧v≤m)):=by
 unfold f103
 by_cases h:v≥1
 ·rw [dT h,cond_true];congr 1;rw [decide_eq_decide];omega
 ·rw [dF h,cond_false,dF (fun hh=>h hh.1)]
theorem lgood_j (l:Lay):(f102_j1 l=some (Sum.inl ()))∨f102_j1 l=some (Sum.inr ()):=by
 unfold f102_j1
 obtain ⟨v,ev⟩:=counts_any l.1
 rw [ev,Aa]
 cases decide (v<(2:Int))
 ·exact .inl rfl
 ·cases (l.2.2 != (0:Int))
  ·exact .inl rfl
  ·exact .inr rfl
theorem kd_ne {a b:ByteArray} {l:Lay} (h:kd a l=true) (hab:(ByteArray.toList a==ByteArray.toList b)=false):kd b l=false:=by
 unfold kd at h ⊢
 have h1:=eq_of_beq h
 rw [h1];exact hab
theorem lgood (l:Lay):∃ b,f102 l=some b∧(b=true→kd bPool l=true→1≤l.2.1):=by
 unfold f102
 rcases lgood_j l with e | e
 ·rw [e,Aa,Ai]
  show ∃ b,(bif kd bDense l then _ else bif kd bConv l then _ else bif kd bPool l then _ else _)=some b∧_
  cases h1:kd bDense l
  ·rw [cond_false]
   cases h2:kd bConv l
   ·rw [cond_false]
    cases h3:kd bPool l
    ·rw [cond_false]
     cases (ByteArray.toList l.1==ByteArray.toList (ByteArray.mk #[98,101,110,100]))
     ·cases (ByteArray.toList l.1==ByteArray.toList (ByteArray.mk #[115,107,105,112]))
      ·exact ⟨_,rfl,fun _ h=>absurd h (by decide)⟩
      ·exact ⟨_,rfl,fun _ h=>absurd h (by decide)⟩
     ·rw [cond_true,Dh];exact ⟨_,rfl,fun _ h=>absurd h (by decide)⟩
    ·rw [cond_true,Dh]
     exact ⟨_,rfl,fun h _=>(of_decide_eq_true h).1⟩
   ·rw [cond_true,Dh,Aa]
    have:=kd_ne h2 (b:=bPool) (by kernel_rfl)
    cases decide (1≤l.2.1∧l.2.1≤16)
    ·exact ⟨_,rfl,fun h=>absurd h (by decide)⟩
    ·rw [cond_true,Dh]
     exact ⟨_,rfl,fun _ h=>absurd (this.symm.trans h) (by decide)⟩
  ·rw [cond_true,Dh]
   have:=kd_ne h1 (b:=bPool) (by kernel_rfl)
   exact ⟨_,rfl,fun _ h=>absurd (this.symm.trans h) (by decide)⟩
 ·rw [e,Aa,As];exact ⟨_,rfl,fun h=>absurd h (by decide)⟩
structure NG (n:Nt):Prop where
 gI:1≤n.1.length∧n.1.length≤2
 gP:∀ i,i<n.2.length→kd bPool (ly n i)=true→1≤(ly n i).2.1
theorem ngood (n:Nt) (h6:n.2.length≤6):∃ b,f63 n=some b∧(b=true→NG n):=by
 unfold f63
 have LL:=Bf (B:=fun go x=>f63_l1 n go x) (fun x=>∃ k:Nat,k≤n.2.length∧x=(k:Int)∧∀ i,i<k→kd bPool (ly n i)=true→1≤(ly n i).2.1) (fun x=>n.2.length-x.toNat)
  (fun z=>z=Sum.inr ()→∀ i,i<n.2.length→kd bPool (ly n i)=true→1≤(ly n i).2.1) ?_ (0:Int) ⟨0,by omega,rfl,fun i h=>absurd h (by omega)⟩ (by show n.2.length-Int.toNat 0<18446744073709551616;omega)
 ·obtain ⟨z,ez,hz⟩:=LL
  rw [ez,Aa]
  cases z with
  | inl u=>exact ⟨false,rfl,fun h=>absurd h (by decide)⟩
  | inr u=>
   have hp:=hz rfl
   rw [As]
   by_cases e1:n.1.length=1
   ·rw [bT (by omega),cond_true,Ab,Dh]
    exact ⟨_,rfl,fun _=>⟨by omega,hp⟩⟩
   ·rw [bF (by omega),cond_false]
    by_cases e2:n.1.length=2
    ·rw [bT (by omega),cond_true,Ab,Dh,Aa]
     cases decide (1≤rd (0:Int) n.1 0∧rd (0:Int) n.1 0≤64)
     ·exact ⟨_,rfl,fun h=>absurd h (by decide)⟩
     ·rw [cond_true,Ab,Dh]
      exact ⟨_,rfl,fun _=>⟨by omega,hp⟩⟩
    ·rw [bF (by omega),cond_false];exact ⟨_,rfl,fun h=>absurd h (by decide)⟩
 ·rintro _ ⟨k,hk,rfl,hp⟩
  by_cases h:k<n.2.length
  ·obtain ⟨b,eb,hb⟩:=lgood (ly n k)
   have eb2:f102 ((rd (Ty.z (.p .str (.p (.int .i64) (.int .i64)))) n.2 (k:Int)).1,((rd (Ty.z (.p .str (.p (.int .i64) (.int .i64)))) n.2 (k:Int)).2).1,((rd (Ty.z (.p .str (.p (.int .i64) (.int .i64)))) n.2 (k:Int)).2).2)=some b:=eb
   cases b
   ·refine .inl ⟨Sum.inl (),fun go=>?_,fun h=>absurd h (by simp)⟩
    unfold f63_l1
    rw [dT,cond_true,Ab,eb2];rfl
   ·refine .inr ⟨((k+1:Nat):Int),fun go=>?_,⟨k+1,h,rfl,fun i hi hk2=>?_⟩,by simp only [Int.toNat_natCast];omega⟩
    ·unfold f63_l1
     rw [dT,cond_true,Ab,eb2,Aa,Bool.not_true,cond_false,Bp k]
    ·by_cases e:i=k
     ·subst e;exact hb rfl hk2
     ·exact hp i (by omega) hk2
  ·obtain rfl:k=n.2.length:=by omega
   refine .inl ⟨Sum.inr (),fun go=>?_,fun _=>hp⟩
   unfold f63_l1
   rw [dF,cond_false]
theorem cloneS (d:List Int) (hl:d.length≤4096):f47 d=some d:=PlB.clone_d d (by omega)
def Fit (p:Option (Bool×List Int)) (n:Nat):Prop:=∃ b d,p=some (b,d)∧d.length≤n
theorem out_j1 (l:Lay) (d:List Int):(f104_j1 l d=some (Sum.inl ())∧d.length=2)∨f104_j1 l d=some (Sum.inr ()):=by
 unfold f104_j1
 by_cases h:d.length=2
 ·rw [nF,cond_false,Ab]
  cases decide (l.2.2>rd (0:Int) d 1)
  ·exact .inl ⟨rfl,h⟩
  ·exact .inr rfl
 ·rw [nT];exact .inr rfl
theorem out_j2 (l:Lay) (d:List Int):(f104_j2 l d=some (Sum.inl ())∧d.length=2)∨f104_j2 l d=some (Sum.inr ()):=by
 unfold f104_j2
 by_cases h:d.length=2
 ·rw [nF,cond_false,Ab]
  cases decide (l.2.1>rd (0:Int) d 1)
  ·exact .inl ⟨rfl,h⟩
  ·exact .inr rfl
 ·rw [nT];exact .inr rfl
theorem lout (l:Lay) (d:List Int) (hd:d.length≤2) (hp:kd bPool l=true→1≤l.2.1):∃ b o,f104 l d=some (b,o)∧o.length≤2∧(b=true→kd bConv l=true→d.length=2):=by
 unfold f104
 show ∃ b o,(bif kd bDense l then _ else bif kd bConv l then _ else bif kd bPool l then _ else _)=some (b,o)∧_
 cases h1:kd bDense l
 ·rw [cond_false]
  cases h2:kd bConv l
  ·rw [cond_false]
   cases h3:kd bPool l
   ·rw [cond_false,cloneS d (by omega)]
    exact ⟨_,_,rfl,hd,fun _ h=>absurd h (by decide)⟩
   ·rw [cond_true]
    rcases out_j2 l d with ⟨e,h⟩ | e
    ·have:=hp h3
     rw [e,Aa,Ai,Ab,Ab,Ab]
     exact ⟨_,_,rfl,Nat.le_refl 2,fun _ h=>absurd h (by decide)⟩
    ·rw [e,Aa,As];exact ⟨_,_,rfl,Nat.zero_le _,fun h=>absurd h (by decide)⟩
  ·rw [cond_true]
   rcases out_j1 l d with ⟨e,h⟩ | e
   ·rw [e,Aa,Ai,Ab]
    exact ⟨_,_,rfl,Nat.le_refl 2,fun _ _=>h⟩
   ·rw [e,Aa,As];exact ⟨_,_,rfl,Nat.zero_le _,fun h=>absurd h (by decide)⟩
 ·have:=kd_ne h1 (b:=bConv) (by kernel_rfl)
  exact ⟨_,_,rfl,Nat.le_succ 1,fun _ h=>absurd (this.symm.trans h) (by decide)⟩
def dm (d:List (List Int)) (i:Nat):List Int:=rd zL d (i:Int)
structure WK (n:Nt) (k:Nat) (d:List (List Int)):Prop where
 kL:d.length=k+1
 kD:∀ i,i≤k→(dm d i).length≤2
 kC:∀ i,i<k→kd bConv (ly n i)=true→(dm d i).length=2
theorem dm_app (d:List (List Int)) (o:List Int) (i:Nat) (h:i<d.length):dm (d++[o]) i=dm d i:=rd_app _ _ _ _ h
theorem dm_last (d:List (List Int)) (o:List Int):dm (d++[o]) d.length=o:=rd_last _ _ _
theorem skips_any (n:Nt) (k:Nat) (d:List (List Int)) (hd:WK n k d) (hk:k<n.2.length) (h6:n.2.length≤6):∃ b,f105 n (k:Int) d=some b:=by
 have hl:=hd.kL
 unfold f105
 by_cases h:(k:Int)>0
 ·have e1:IntKind.i64.wrap ((k:Int)-1)=((k-1:Nat):Int):=by rw [Ae];omega
  rw [dT h,cond_true,e1,Ab]
  cases (ByteArray.toList ((rd (Ty.z (.p .str (.p (.int .i64) (.int .i64)))) n.2 ((k-1:Nat):Int)).1)==ByteArray.toList (ByteArray.mk #[115,107,105,112]))
  ·rw [Bool.not_false,cond_true,Ab,Ab]
   have hq:(rd (Ty.z (.sl (.int .i64))) d ((k-1:Nat):Int)).length≤2:=hd.kD (k-1) (by omega)
   rw [sameP _ _ (Nat.lt_of_le_of_lt hq (by decide))];exact ⟨_,rfl⟩
  ·exact ⟨_,rfl⟩
 ·rw [dF h,cond_false];exact ⟨_,rfl⟩
theorem walk_j (n:Nt) (k:Nat) (d:List (List Int)) (q:Bool×List Int) (hd:WK n k d) (hk:k<n.2.length) (h6:n.2.length≤6) :
  (f64_j4 n (k:Int) d q=some (Sum.inl ())∧q.1=true)∨f64_j4 n (k:Int) d q=some (Sum.inr ()):=by
 unfold f64_j4
 cases h:q.1
 ·exact .inr rfl
 ·rw [Bool.not_true,cond_false]
  cases (ByteArray.toList ((rd (Ty.z (.p .str (.p (.int .i64) (.int .i64)))) n.2 (k:Int)).1)==ByteArray.toList (ByteArray.mk #[115,107,105,112]))
  ·exact .inl ⟨rfl,rfl⟩
  ·obtain ⟨b,eb⟩:=skips_any n k d hd hk h6
   have eb2:f105 (n.1,n.2) (k:Int) d=some b:=eb
   rw [cond_true,eb2,Aa]
   cases b
   ·exact .inr rfl
   ·exact .inl ⟨rfl,rfl⟩
theorem walkW (n:Nt) (g:NG n) (h6:n.2.length≤6):∃ b d,f64 n=some (b,d)∧(b=true→WK n n.2.length d):=by
 obtain ⟨i1,i2⟩:=g.gI
 unfold f64
 rw [cloneS n.1 (by omega),Aa]
 have LL:=Bf (B:=fun go (x:Int×List (List Int))=>f64_l3 n go x.1 x.2) (fun x=>∃ k:Nat,k≤n.2.length∧x.1=(k:Int)∧WK n k x.2) (fun x=>n.2.length-x.1.toNat)
  (fun z=>∀ d,z=Sum.inr d→WK n n.2.length d) ?_ ((0:Int),[n.1]) ⟨0,by omega,rfl,rfl,(by intro i hi;have h0:i=0:=Nat.le_zero.1 hi;subst h0;exact i2),fun i hi=>absurd hi (Nat.not_lt_zero _)⟩ (by simp only;omega)
 ·obtain ⟨z,ez,hz⟩:=LL
  rw [ez,Aa]
  cases z with
  | inl u=>exact ⟨false,[],rfl,fun h=>absurd h (by decide)⟩
  | inr d=>exact ⟨true,d,rfl,fun _=>hz d rfl⟩
 ·rintro ⟨_,d⟩ ⟨k,hk,rfl,hd⟩
  simp only at hd
  have hl:=hd.kL
  by_cases h:k<n.2.length
  ·obtain ⟨b,o,eo,o2,oc⟩:=lout (ly n k) (dm d k) (hd.kD k (by omega)) (g.gP k h)
   have eo2:f104 ((rd (Ty.z (.p .str (.p (.int .i64) (.int .i64)))) n.2 (k:Int)).1,((rd (Ty.z (.p .str (.p (.int .i64) (.int .i64)))) n.2 (k:Int)).2).1,((rd (Ty.z (.p .str (.p (.int .i64) (.int .i64)))) n.2 (k:Int)).2).2) (rd (Ty.z (.sl (.int .i64))) d (k:Int))=some (b,o):=eo
   rcases walk_j n k d (b,o) hd h h6 with ⟨ej,hb⟩ | ej
   ·have g3:(List.length d+List.length [o])*24≤140737488355328:=by simp only [List.length_cons,List.length_nil];omega
    refine .inr ⟨(((k+1:Nat):Int),d++[o]),fun go=>?_,⟨k+1,h,rfl,by simp;omega,fun i hi=>?_,fun i hi hc=>?_⟩,by simp only [Int.toNat_natCast];omega⟩
    ·unfold f64_l3
     simp only
     rw [dT,cond_true,Ab,Ab,eo2,Aa,ej,Aa,Ai,Ab g3,Bp k]
    ·by_cases e:i<d.length
     ·simp only;rw [dm_app _ _ _ e];exact hd.kD i (by omega)
     ·obtain rfl:i=d.length:=by omega
      simp only;rw [dm_last];exact o2
    ·simp only
     rw [dm_app _ _ _ (by omega)]
     by_cases e:i=k
     ·subst e;exact oc hb hc
     ·exact hd.kC i (by omega) hc
   ·refine .inl ⟨Sum.inl (),fun go=>?_,fun d h=>absurd h (by simp)⟩
    unfold f64_l3
    simp only
    rw [dT,cond_true,Ab,Ab,eo2,Aa,ej,Aa,As]
  ·obtain rfl:k=n.2.length:=by omega
   refine .inl ⟨Sum.inr d,fun go=>?_,fun d' h=>by injection h with h;subst h;exact hd⟩
   unfold f64_l3
   simp only
   rw [dF,cond_false]
def psm (ps:List (List Int)):Nat→Int
 | 0=>0
 | k+1=>psm ps k+prd (dm ps k)
def tsm (n:Nt) (d:List (List Int)):Nat→Int
 | 0=>0
 | k+1=>tsm n d k+psm (pls (ly n k) (dm d k)) (pls (ly n k) (dm d k)).length
theorem psm_range (ps:List (List Int)):∀ k:Nat,0≤psm ps k∧psm ps k≤k*4096
 | 0=>by simp [psm]
 | k+1=>by
  have:=psm_range ps k
  have:=Av (dm ps k)
  simp only [psm]
  omega
theorem tsm_range (n:Nt) (d:List (List Int)):∀ k:Nat,0≤tsm n d k∧tsm n d k≤k*8192
 | 0=>by simp [tsm]
 | k+1=>by
  have:=tsm_range n d k
  have:=psm_range (pls (ly n k) (dm d k)) (pls (ly n k) (dm d k)).length
  have:=pls_len (ly n k) (dm d k)
  simp only [tsm]
  omega
def AllG (ps:List (List Int)) (k:Nat):Prop:=∀ j,j<k→0<prd (dm ps j)
theorem sum_in (ps:List (List Int)) (hl:ps.length≤2) (hd:∀ j,j<ps.length→(dm ps j).length≤3) (m0 M:Int) (ok0:Bool) (hM:ok0=true→m0=M) (M0:0≤M∧M≤100000) :
  ∃ z,Ag (fun go (x:Int×Bool×Int)=>f41_l4 ps go x.1 x.2.1 x.2.2) Ah (m0,ok0,(0:Int))=some z∧(z.2=true→ok0=true∧z.1=M+psm ps ps.length∧AllG ps ps.length):=by
 refine Ds (B:=fun go (x:Int×Bool×Int)=>f41_l4 ps go x.1 x.2.1 x.2.2) (fun k x=>x.2.2=(k:Int)∧(x.2.1=true→ok0=true∧x.1=M+psm ps k∧AllG ps k))
  (fun z=>z.2=true→ok0=true∧z.1=M+psm ps ps.length∧AllG ps ps.length) ps.length (m0,ok0,(0:Int)) ⟨rfl,fun h=>⟨h,by simp only [psm];rw [hM h];omega,fun j hj=>absurd hj (by omega)⟩⟩ ?_ ?_ (by omega)
 ·rintro k hk ⟨m,ok,_⟩ ⟨rfl,h⟩
  simp only at h
  obtain ⟨v,ev⟩:=prod_any (dm ps k) (by have:=hd k hk;omega)
  have ev2:f66 (rd (Ty.z (.sl (.int .i64))) ps (k:Int))=some v:=ev
  have eg:f67 (rd (Ty.z (.sl (.int .i64))) ps (k:Int))=some (decide (prd (dm ps k)>0)):=Ay (dm ps k)
  cases ok
  ·refine ⟨(IntKind.i64.wrap (m+v),false,((k+1:Nat):Int)),fun go=>?_,rfl,fun h=>absurd h Bool.false_ne_true⟩
   unfold f41_l4
   simp only
   rw [dT,cond_true,Ab,ev2,Aa,cond_false,Bp k]
  ·refine ⟨(IntKind.i64.wrap (m+v),decide (prd (dm ps k)>0),((k+1:Nat):Int)),fun go=>?_,rfl,fun hg=>?_⟩
   ·unfold f41_l4
    simp only
    rw [dT,cond_true,Ab,ev2,Aa,cond_true,eg,Aa,Bp k]
   ·have hp:prd (dm ps k)>0:=of_decide_eq_true hg
    obtain ⟨a,b,c⟩:=h rfl
    have e1:=prod_ok (d:=dm ps k) hp
    rw [ev] at e1
    injection e1 with e1
    have r1:=psm_range ps k
    have r2:=Av (dm ps k)
    refine ⟨a,?_,fun j hj=>?_⟩
    ·simp only [psm]
     rw [Ae];omega
    ·by_cases e:j=k
     ·subst e;exact hp
     ·exact c j (by omega)
 ·rintro ⟨m,ok,_⟩ ⟨rfl,h⟩
  refine ⟨(m,ok),fun go=>?_,h⟩
  unfold f41_l4
  simp only
  rw [dF,cond_false]
def NS (n:Nt) (d:List (List Int)):Prop:=∀ i,i<n.2.length→AllG (pls (ly n i) (dm d i)) (pls (ly n i) (dm d i)).length
theorem pls_dim (l:Lay) (d:List Int) (j:Nat) (hj:j<(pls l d).length):(dm (pls l d) j).length≤3:=by
 unfold pls at hj ⊢
 cases h1:kd bDense l
 ·rw [h1] at hj
  cases h2:kd bConv l
  ·rw [h2] at hj;exact absurd hj (Nat.not_lt_zero _)
  ·rw [h2] at hj
   obtain rfl:j=0:=Nat.lt_one_iff.1 hj
   exact Nat.le_refl 3
 ·rw [h1] at hj
  have hj':j<2:=hj
  match j,hj' with
  | 0,_=>exact Nat.le_succ 2
  | 1,_=>exact Nat.le_succ_of_le (Nat.le_succ 1)
theorem sumW (n:Nt) (d:List (List Int)) (h6:n.2.length≤6) (W:WK n n.2.length d):∃ m ok,f41 n d=some (m,ok)∧(ok=true→m=tsm n d n.2.length∧m≤4096∧NS n d):=by
 have hl:=W.kL
 unfold f41
 rw [dT (show (List.length n.2:Int)≤16 by omega)]
 have LL:=Ds (B:=fun go (x:Int×Bool×Int)=>f41_l3 n d go x.1 x.2.1 x.2.2) (fun k x=>x.2.2=(k:Int)∧(x.2.1=true→x.1=tsm n d k∧∀ i,i<k→AllG (pls (ly n i) (dm d i)) (pls (ly n i) (dm d i)).length))
  (fun z=>z.2=true→z.1=tsm n d n.2.length∧NS n d) n.2.length ((0:Int),true,(0:Int)) ⟨rfl,fun _=>⟨rfl,fun j hj=>absurd hj (by omega)⟩⟩ ?_ ?_ (by omega)
 ·obtain ⟨z,ez,hz⟩:=LL
  rw [ez,Aa]
  cases h:z.2
  ·exact ⟨_,_,rfl,fun hh=>absurd hh (by decide)⟩
  ·obtain ⟨a,b⟩:=hz h
   rw [cond_true,Ay,Aa]
   cases decide (prd n.1>0)
   ·exact ⟨_,_,rfl,fun hh=>absurd hh (by decide)⟩
   ·rw [cond_true]
    exact ⟨_,_,rfl,fun hh=>⟨a,of_decide_eq_true hh,b⟩⟩
 ·rintro k hk ⟨m,ok,_⟩ ⟨rfl,h⟩
  simp only at h
  have ep:=pls_ok (ly n k) (dm d k) (W.kD k (by omega)) (W.kC k hk)
  have ep2:f65 ((rd (Ty.z (.p .str (.p (.int .i64) (.int .i64)))) n.2 (k:Int)).1,((rd (Ty.z (.p .str (.p (.int .i64) (.int .i64)))) n.2 (k:Int)).2).1,((rd (Ty.z (.p .str (.p (.int .i64) (.int .i64)))) n.2 (k:Int)).2).2) (rd (Ty.z (.sl (.int .i64))) d (k:Int))=some (pls (ly n k) (dm d k)):=ep
  have r:=tsm_range n d k
  obtain ⟨z,ez,hz⟩:=sum_in (pls (ly n k) (dm d k)) (pls_len _ _) (pls_dim _ _) m (tsm n d k) ok (fun hh=>(h hh).1) (by omega)
  have eg:f67 (rd (Ty.z (.sl (.int .i64))) d (k:Int))=some (decide (prd (dm d k)>0)):=Ay (dm d k)
  have start:∀ go,f41_l3 n d go m ok (k:Int)=bif z.2 then (bif decide (prd (dm d k)>0) then go (z.1,decide (prd (dm d (k+1))>0),((k+1:Nat):Int)) else go (z.1,false,((k+1:Nat):Int))) else go (z.1,false,((k+1:Nat):Int)):=fun go=>by
   have eg2:f67 (rd (Ty.z (.sl (.int .i64))) d ((k+1:Nat):Int))=some (decide (prd (dm d (k+1))>0)):=Ay (dm d (k+1))
   unfold f41_l3
   rw [dT,cond_true,Ab,Ab,ep2,Aa,ez,Aa,Bp k,eg,Aa,Ab,Ab,eg2,Aa]
  cases hb:z.2
  ·refine ⟨(z.1,false,((k+1:Nat):Int)),fun go=>?_,rfl,fun h=>absurd h Bool.false_ne_true⟩
   simp only
   rw [start,hb,cond_false]
  ·obtain ⟨a,b,c⟩:=hz hb
   obtain ⟨h1,h2⟩:=h a
   cases hg:decide (prd (dm d k)>0)
   ·refine ⟨(z.1,false,((k+1:Nat):Int)),fun go=>?_,rfl,fun h=>absurd h Bool.false_ne_true⟩
    simp only
    rw [start,hb,cond_true,hg,cond_false]
   ·refine ⟨(z.1,decide (prd (dm d (k+1))>0),((k+1:Nat):Int)),fun go=>?_,rfl,fun _=>⟨b,fun i hi=>?_⟩⟩
    ·simp only
     rw [start,hb,cond_true,hg,cond_true]
    ·by_cases e:i=k
     ·subst e;exact c
     ·exact h2 i (by omega)
 ·rintro ⟨m,ok,_⟩ ⟨rfl,h⟩
  refine ⟨(m,ok),fun go=>?_,h⟩
  unfold f41_l3
  simp only
  rw [dF,cond_false]
structure Net1 (n:Nt) (d:List (List Int)):Prop where
 t6:n.2.length≤6
 tI:n.1.length≤2
 tW:WK n n.2.length d
 tS:NS n d
 tM:tsm n d n.2.length≤4096
 tSum:f41 n d=some (tsm n d n.2.length,true)
theorem shapesW (n:Nt) (h6:n.2.length≤6):∃ e d,f40 n=some (e,d)∧(e=0→Net1 n d):=by
 unfold f40
 obtain ⟨b,eb,hb⟩:=ngood n h6
 have eb2:f63 (n.1,n.2)=some b:=eb
 rw [eb2,Aa]
 cases b
 ·exact ⟨_,_,rfl,fun h=>absurd h (by decide)⟩
 ·rw [Bool.not_true,cond_false]
  obtain ⟨c,d,ec,hc⟩:=walkW n (hb rfl) h6
  have ec2:f64 (n.1,n.2)=some (c,d):=ec
  rw [ec2,Aa]
  cases c
  ·exact ⟨_,_,rfl,fun h=>absurd h (by decide)⟩
  ·simp only [Bool.not_true,cond_false]
   obtain ⟨m,ok,es,hs⟩:=sumW n d h6 (hc rfl)
   have es2:f41 (n.1,n.2) d=some (m,ok):=es
   rw [es2,Aa]
   cases ok
   ·exact ⟨_,_,rfl,fun h=>absurd h (by decide)⟩
   ·obtain ⟨s1,s2,s3⟩:=hs rfl
    exact ⟨_,_,rfl,fun _=>⟨h6,(hb rfl).gI.2,hc rfl,s3,by omega,by rw [es,s1]⟩⟩
theorem paramsW (n:Nt) (h6:n.2.length≤6):(∃ e,e≠0∧f28 n=some (0,e)∧∃ d,f40 n=some (e,d))∨∃ d,Net1 n d∧f28 n=some (tsm n d n.2.length,0)∧f40 n=some (0,d):=by
 obtain ⟨e,d,es,hs⟩:=shapesW n h6
 have es2:f40 (n.1,n.2)=some (e,d):=es
 unfold f28
 rw [es2,Aa]
 by_cases h:e=0
 ·subst h
  have N:=hs rfl
  have e3:f41 (n.1,n.2) d=some (tsm n d n.2.length,true):=N.tSum
  rw [nF rfl,cond_false,e3]
  exact .inr ⟨d,N,rfl,rfl⟩
 ·rw [nT h];exact .inl ⟨e,h,rfl,d,rfl⟩
def lsum (t:List Nd):List Int→Int
 | []=>0
 | x::r=>prd (nd t x.toNat).1+lsum t r
def InT (t:List Nd) (ls:List Int):Prop:=∀ x ∈ ls,0≤x∧x<t.length
theorem lsum_app (t:List Nd):∀ a b:List Int,lsum t (a++b)=lsum t a+lsum t b
 | [],b=>by simp [lsum]
 | x::a,b=>by simp only [List.cons_append,lsum];rw [lsum_app t a b];omega
theorem lsum_ext (t s:List Nd):∀ ls:List Int,InT t ls→lsum (t++s) ls=lsum t ls
 | [],_=>rfl
 | x::r,h=>by
  have h1:=h x (by simp)
  simp only [lsum]
  rw [lsum_ext t s r (fun y hy=>h y (List.mem_cons_of_mem _ hy)),nd_app _ _ _ (by omega)]
theorem inT_ext {t:List Nd} {ls:List Int} (h:InT t ls) (s:List Nd):InT (t++s) ls:=fun x hx=>by
 have:=h x hx
 rw [List.length_append];omega
structure RI (P:Int) (e:Int) (p leafs:List Int) (t:List Nd):Prop where
 rT:TW t
 rP:inI p
 rL:e=0→InT t leafs∧lsum t leafs+p.length=P
theorem inI_take {l:List Int} (h:inI l) (k:Nat):inI (l.take k):=fun x hx=>h x (List.mem_of_mem_take hx)
theorem inI_drop {l:List Int} (h:inI l) (k:Nat):inI (l.drop k):=fun x hx=>h x (List.mem_of_mem_drop hx)
theorem ri_ext {P e:Int} {p leafs:List Int} {t m:List Nd} {i e':Int} (R:RI P 0 p leafs t) (N:Nx t m i e'):RI P e' p leafs m:=by
 refine ⟨N.xT,R.rP,fun h=>?_⟩
 obtain ⟨a,b⟩:=R.rL rfl
 obtain ⟨_,n,hn⟩:=N.xO h
 rw [hn]
 exact ⟨inT_ext a _,by rw [lsum_ext _ _ _ a];exact b⟩
def RGo (P:Int) (p leafs:List Int) (q:Option (Int×Int×List Int×List Int×List Nd)):Prop:=∃ i e t,q=some (i,e,p,leafs,t)∧RI P e p leafs t
theorem r_doW {P e:Int} {p leafs:List Int} {t:List Nd} (R:RI P e p leafs t) (op a b k:Int) (ho:NOp op):RGo P p leafs (f109 t e p leafs op a b k):=by
 unfold f109
 by_cases h:e=0
 ·subst h
  rw [nF rfl,cond_false]
  obtain ⟨i,e',m,q,N⟩:=doW R.rT op a b k ho
  rw [q];exact ⟨_,_,_,rfl,ri_ext (e:=0) R N⟩
 ·rw [nT h];exact ⟨_,_,_,rfl,R⟩
theorem r_one {P e:Int} {p leafs:List Int} {t:List Nd} (R:RI P e p leafs t) (d:List Int) (hd:0<prd d) (hp:prd d≤p.length) :
  ∃ i e' t',f69 t e p leafs d (p.take (prd d).toNat)=some (i,e',p,leafs,t')∧RI P e' (p.drop (prd d).toNat) (leafs++[i]) t':=by
 unfold f69
 by_cases h:e=0
 ·subst h
  rw [nF rfl,cond_false]
  obtain ⟨i,e',m,q,N,hl⟩:=leafW R.rT (d,p.take (prd d).toNat) (inI_take R.rP _)
  rw [q]
  refine ⟨_,_,_,rfl,N.xT,inI_drop R.rP _,fun h=>?_⟩
  obtain ⟨a,b⟩:=R.rL rfl
  obtain ⟨hi,_⟩:=N.xO h
  obtain ⟨hm,_⟩:=hl h
  rw [hm,hi]
  refine ⟨fun x hx=>?_,?_⟩
  ·rcases List.mem_append.1 hx with hx | hx
   ·exact inT_ext a _ x hx
   ·rw [List.mem_singleton.1 hx,List.length_append];simp;omega
  ·rw [lsum_app,lsum_ext _ _ _ a]
   simp only [lsum,Int.toNat_natCast]
   rw [nd_last,List.length_drop]
   simp only
   omega
 ·rw [nT h];exact ⟨_,_,_,rfl,R.rT,inI_drop R.rP _,fun hh=>absurd hh h⟩
theorem psm_mono {ps:List (List Int)}:∀ (r k:Nat),psm ps k≤psm ps (k+r)
 | 0,k=>Int.le_refl _
 | r+1,k=>by
  have:=psm_mono (ps:=ps) r k
  have:=Av (dm ps (k+r))
  show psm ps k≤psm ps (k+r)+prd (dm ps (k+r))
  omega
theorem r_params {P e:Int} {p leafs:List Int} {t:List Nd} (R:RI P e p leafs t) (ps:List (List Int)) (hl:ps.length≤2) (hg:AllG ps ps.length) (hp:psm ps ps.length≤p.length) (hll:leafs.length≤100) :
  ∃ f la e' p' leafs' t',f108 t e p leafs ps=some (f,la,e',p',leafs',t')∧RI P e' p' leafs' t'∧(p'.length:Int)=p.length-psm ps ps.length∧leafs'.length=leafs.length+ps.length:=by
 unfold f108
 have LL:=Ds (B:=fun go (x:Int×Int×Int×Int×List Int×List Int×List Nd)=>f108_l3 ps go x.1 x.2.1 x.2.2.1 x.2.2.2.1 x.2.2.2.2.1 x.2.2.2.2.2.1 x.2.2.2.2.2.2)
  (fun k x=>x.2.2.1=(k:Int)∧RI P x.2.2.2.1 x.2.2.2.2.1 x.2.2.2.2.2.1 x.2.2.2.2.2.2∧(x.2.2.2.2.1.length:Int)=p.length-psm ps k∧x.2.2.2.2.2.1.length=leafs.length+k)
  (fun z=>RI P z.2.2.1 z.2.2.2.1 z.2.2.2.2.1 z.2.2.2.2.2∧(z.2.2.2.1.length:Int)=p.length-psm ps ps.length∧z.2.2.2.2.1.length=leafs.length+ps.length) ps.length ((0:Int),(0:Int),(0:Int),e,p,leafs,t) ⟨rfl,R,by simp only [psm];omega,rfl⟩ ?_ ?_ (by omega)
 ·obtain ⟨z,ez,hz⟩:=LL
  rw [ez]
  obtain ⟨h1,h2,h3⟩:=hz
  exact ⟨_,_,_,_,_,_,rfl,h1,h2,h3⟩
 ·rintro k hk ⟨f,la,_,e1,p1,l1,t1⟩ ⟨rfl,R1,hp1,hl1⟩
  simp only at R1 hp1 hl1
  have hd:=hg k hk
  obtain ⟨r,hr⟩:∃ r,ps.length=k+1+r:=⟨ps.length-(k+1),by omega⟩
  have m1:=psm_mono (ps:=ps) r (k+1)
  rw [← hr] at m1
  simp only [psm] at m1
  have hpd:prd (dm ps k)≤p1.length:=by omega
  obtain ⟨i,e2,t2,q2,R2⟩:=r_one R1 (dm ps k) hd hpd
  have ep:f66 (rd (Ty.z (.sl (.int .i64))) ps (k:Int))=some (prd (dm ps k)):=prod_ok hd
  have q3:f69 t1 e1 p1 l1 (rd (Ty.z (.sl (.int .i64))) ps (k:Int)) (p1.take (prd (dm ps k)).toNat)=_:=q2
  have ej:f108_j4 ps (k:Int) e1 p1 l1 t1=some (i,e2,p1,l1,t2):=by
   unfold f108_j4
   rw [ep,Aa,Ab ⟨by omega,hpd⟩,q3];rfl
  have g3:(List.length l1+List.length [i])*8≤140737488355328:=by simp only [List.length_cons,List.length_nil];omega
  have hlen:((p1.drop (prd (dm ps k)).toNat).length:Int)=p.length-psm ps (k+1):=by
   rw [List.length_drop];simp only [psm];omega
  have hlen2:(l1++[i]).length=leafs.length+(k+1):=by rw [List.length_append];simp;omega
  have start:∀ go,f108_l3 ps go f la (k:Int) e1 p1 l1 t1=bif ((k:Int)==(0:Int)) then go (i,i,((k+1:Nat):Int),e2,p1.drop (prd (dm ps k)).toNat,l1++[i],t2) else go (f,i,((k+1:Nat):Int),e2,p1.drop (prd (dm ps k)).toNat,l1++[i],t2):=fun go=>by
   unfold f108_l3
   rw [dT,cond_true,Ab,ej,Aa,ep,Aa,Ab ⟨by omega,hpd⟩,Ab g3,Bp k]
  cases hk0:((k:Int)==(0:Int))
  ·refine ⟨(f,i,((k+1:Nat):Int),e2,p1.drop (prd (dm ps k)).toNat,l1++[i],t2),fun go=>?_,rfl,R2,hlen,hlen2⟩
   simp only
   rw [start,hk0,cond_false]
  ·refine ⟨(i,i,((k+1:Nat):Int),e2,p1.drop (prd (dm ps k)).toNat,l1++[i],t2),fun go=>?_,rfl,R2,hlen,hlen2⟩
   simp only
   rw [start,hk0,cond_true]
 ·rintro ⟨f,la,_,e1,p1,l1,t1⟩ ⟨rfl,R1,hp1,hl1⟩
  refine ⟨(f,la,e1,p1,l1,t1),fun go=>?_,R1,hp1,hl1⟩
  unfold f108_l3
  simp only
  rw [dF,cond_false]
theorem r_layer {P e:Int} {p leafs:List Int} {t:List Nd} (R:RI P e p leafs t) (l:Lay) (d:List Int) (x ahead:Int) (hd:d.length≤2) (hc:kd bConv l=true→d.length=2) (hg:AllG (pls l d) (pls l d).length) (hp:psm (pls l d) (pls l d).length≤p.length) (hll:leafs.length≤100) :
  ∃ i e' p' leafs' t',f70 t e p leafs l d x ahead=some (i,e',p',leafs',t')∧RI P e' p' leafs' t'∧(p'.length:Int)=p.length-psm (pls l d) (pls l d).length∧leafs'.length≤leafs.length+2:=by
 have ep:f65 (l.1,l.2.1,l.2.2) d=some (pls l d):=pls_ok l d hd hc
 have h2:=pls_len l d
 obtain ⟨f,la,e1,p1,l1,t1,q1,R1,hp1,hl1⟩:=r_params R (pls l d) h2 hg hp hll
 have hl2:l1.length≤leafs.length+2:=by omega
 have fin:∀ q,RGo P p1 l1 q→∃ i e' p' leafs' t',(Ac q fun r9=>some (r9.1,r9.2.1,r9.2.2.1,r9.2.2.2.1,r9.2.2.2.2))=some (i,e',p',leafs',t')∧RI P e' p' leafs' t'∧(p'.length:Int)=p.length-psm (pls l d) (pls l d).length∧leafs'.length≤leafs.length+2:=by
  rintro _ ⟨i,e2,t2,rfl,R2⟩
  exact ⟨_,_,_,_,_,rfl,R2,hp1,hl2⟩
 unfold f70
 rw [ep,Aa,q1,Aa]
 simp only
 cases (ByteArray.toList l.1==ByteArray.toList (ByteArray.mk #[100,101,110,115,101]))
 ·rw [cond_false]
  cases (ByteArray.toList l.1==ByteArray.toList (ByteArray.mk #[99,111,110,118]))
  ·rw [cond_false]
   cases (ByteArray.toList l.1==ByteArray.toList (ByteArray.mk #[112,111,111,108]))
   ·rw [cond_false]
    cases (ByteArray.toList l.1==ByteArray.toList (ByteArray.mk #[98,101,110,100]))
    ·exact fin _ (r_doW R1 2 ahead x 0 (by unfold NOp;omega))
    ·exact fin _ (r_doW R1 11 x 0 l.2.1 (by unfold NOp;omega))
   ·exact fin _ (r_doW R1 13 x 0 l.2.1 (by unfold NOp;omega))
  ·exact fin _ (r_doW R1 12 x f 1 (by unfold NOp;omega))
 ·rw [cond_true]
  have hj:∃ i e2 t2,f70_j1 d x (f,la,e1,p1,l1,t1)=some (i,e2,p1,l1,t2)∧RI P e2 p1 l1 t2:=by
   unfold f70_j1
   cases ((List.length d:Int)==(2:Int))
   ·exact ⟨_,_,_,rfl,R1⟩
   ·rw [cond_true]
    simp only
    obtain ⟨i,e2,t2,q,R2⟩:=r_doW R1 14 x 0 0 (by unfold NOp;omega)
    rw [q];exact ⟨_,_,_,rfl,R2⟩
  obtain ⟨i2,e2,t2,q2,R2⟩:=hj
  rw [q2,Aa]
  simp only
  obtain ⟨i3,e3,t3,q3,R3⟩:=r_doW R2 4 f i2 0 (by unfold NOp;omega)
  rw [q3,Aa]
  simp only
  obtain ⟨i4,e4,t4,q4,R4⟩:=r_doW R3 8 i3 0 1 (by unfold NOp;omega)
  rw [q4,Aa]
  simp only
  exact fin _ (r_doW R4 2 i4 la 0 (by unfold NOp;omega))
theorem tsm_mono {n:Nt} {d:List (List Int)}:∀ (r k:Nat),tsm n d k≤tsm n d (k+r)
 | 0,k=>Int.le_refl _
 | r+1,k=>by
  have:=tsm_mono (n:=n) (d:=d) r k
  have:=psm_range (pls (ly n (k+r)) (dm d (k+r))) (pls (ly n (k+r)) (dm d (k+r))).length
  show tsm n d k≤tsm n d (k+r)+psm (pls (ly n (k+r)) (dm d (k+r))) (pls (ly n (k+r)) (dm d (k+r))).length
  omega
structure Ran (P:Int) (leafs:List Int) (m:List Nd):Prop where
 aT:TW m
 aL:InT m leafs
 aS:lsum m leafs≤P
 aN:leafs.length≤100
theorem runW (n:Nt) (d:List (List Int)) (N:Net1 n d) (hs:f40 n=some (0,d)) (p x:List Int) (ip:inI p) (ix:inI x) :
  ∃ i e leafs m,f43 [] n p x=some (i,e,leafs,m)∧(e=0→Ran (tsm n d n.2.length) leafs m):=by
 have h6:=N.t6
 have hkL:=N.tW.kL
 unfold f43
 have hs2:f40 (n.1,n.2)=some (0,d):=hs
 have e3:f41 (n.1,n.2) d=some (tsm n d n.2.length,true):=N.tSum
 rw [hs2,Aa,nF rfl,cond_false]
 simp only
 rw [e3,Aa]
 have hj:(f43_j2 n p x (tsm n d n.2.length,true)=some (Sum.inl ())∧(p.length:Int)=tsm n d n.2.length)∨f43_j2 n p x (tsm n d n.2.length,true)=some (Sum.inr ()):=by
  unfold f43_j2 f43_j3
  simp only
  by_cases h:(p.length:Int)=tsm n d n.2.length
  ·obtain ⟨v,ev⟩:=prod_any n.1 (by have:=N.tI;omega)
   rw [nF h,cond_false,ev,Aa,Aa]
   cases ((List.length x:Int) != v)
   ·exact .inl ⟨rfl,h⟩
   ·exact .inr rfl
  ·rw [nT h];exact .inr rfl
 rcases hj with ⟨ej,hp⟩ | ej
 ·rw [ej,Aa,Ai]
  show ∃ i e leafs m,Ac (some ((List.length ([]:List Nd):Int),([]:List Nd))) _=some (i,e,leafs,m)∧_
  rw [Aa]
  simp only
  have R0:RI (tsm n d n.2.length) 0 p [] []:=⟨tw_nil,ip,fun _=>⟨fun y hy=>absurd hy (by simp),by simp only [lsum];omega⟩⟩
  have first:∃ i e t,f69 [] 0 p [] n.1 x=some (i,e,p,[],t)∧RI (tsm n d n.2.length) e p [] t:=by
   unfold f69
   rw [nF rfl,cond_false]
   obtain ⟨i,e',m,q,N1,_⟩:=leafW tw_nil (n.1,x) ix
   rw [q];exact ⟨_,_,_,rfl,ri_ext (e:=0) R0 N1⟩
  obtain ⟨i1,e1,t1,q1,R1⟩:=first
  rw [q1,Aa]
  simp only
  have LL:=Ds (B:=fun go (x:Int×Int×Int×Int×List Int×List Nd×List Int)=>f43_l4 n (0,d) go x.1 x.2.1 x.2.2.1 x.2.2.2.1 x.2.2.2.2.1 x.2.2.2.2.2.1 x.2.2.2.2.2.2)
   (fun k y=>y.2.2.1=(k:Int)∧RI (tsm n d n.2.length) y.2.2.2.1 y.2.2.2.2.1 y.2.2.2.2.2.2 y.2.2.2.2.2.1∧(y.2.2.2.2.1.length:Int)=tsm n d n.2.length-tsm n d k∧y.2.2.2.2.2.2.length≤2*k)
   (fun z=>RI (tsm n d n.2.length) z.2.1 z.2.2.1 z.2.2.2.2 z.2.2.2.1∧z.2.2.2.2.length≤100) n.2.length (i1,(0:Int),(0:Int),e1,p,t1,[]) ⟨rfl,R1,by simp only [tsm];omega,by simp⟩ ?_ ?_ (by omega)
  ·obtain ⟨z,ez,hz⟩:=LL
   rw [ez,Aa]
   obtain ⟨Rz,lz⟩:=hz
   by_cases he:z.2.1=0
   ·rw [nF he,cond_false]
    refine ⟨_,_,_,_,rfl,fun _=>?_⟩
    obtain ⟨a,b⟩:=Rz.rL he
    exact ⟨Rz.rT,a,by omega,lz⟩
   ·obtain ⟨m',q⟩:=cut_any z.2.2.2.1 (List.length ([]:List Nd):Int)
    rw [nT he,cond_true,q]
    exact ⟨_,_,_,_,rfl,fun h=>absurd h he⟩
  ·rintro k hk ⟨at_,ah,_,e2,p2,t2,l2⟩ ⟨rfl,R2,hp2,hl2⟩
   simp only at R2 hp2 hl2
   obtain ⟨r,hr⟩:∃ r,n.2.length=k+1+r:=⟨n.2.length-(k+1),by omega⟩
   have m1:=tsm_mono (n:=n) (d:=d) r (k+1)
   rw [← hr] at m1
   simp only [tsm] at m1
   obtain ⟨i3,e3,p3,l3,t3,q3,R3,hp3,hl3⟩:=r_layer R2 (ly n k) (dm d k) at_ ah (N.tW.kD k (by omega)) (N.tW.kC k hk) (N.tS k hk) (by omega) (by omega)
   have q4:f70 t2 e2 p2 l2 ((rd (Ty.z (.p .str (.p (.int .i64) (.int .i64)))) n.2 (k:Int)).1,((rd (Ty.z (.p .str (.p (.int .i64) (.int .i64)))) n.2 (k:Int)).2).1,((rd (Ty.z (.p .str (.p (.int .i64) (.int .i64)))) n.2 (k:Int)).2).2) (rd (Ty.z (.sl (.int .i64))) d (k:Int)) at_ ah=_:=q3
   refine ⟨(i3,at_,((k+1:Nat):Int),e3,p3,t3,l3),fun go=>?_,rfl,R3,?_,by simp only;omega⟩
   ·unfold f43_l4
    simp only
    rw [dT,cond_true,Ab,Ab,q4,Aa,Bp k]
   ·simp only [tsm];omega
  ·rintro ⟨at_,ah,_,e2,p2,t2,l2⟩ ⟨rfl,R2,hp2,hl2⟩
   refine ⟨(at_,e2,p2,t2,l2),fun go=>?_,R2,by simp only at hl2 ⊢;omega⟩
   unfold f43_l4
   simp only
   rw [dF,cond_false]
 ·rw [ej,Aa,As];exact ⟨_,_,_,_,rfl,fun h=>absurd h (by decide)⟩
def OfOk (M:Int) (r:Int×Int×List Int):Prop:=r.2.1=0→InR r.1∧inI r.2.2∧(r.2.2.length:Int)≤M
theorem ofW (n:Nt) (d:List (List Int)) (N:Net1 n d) (hs:f40 n=some (0,d)) (kind:Int) (p:List Int) (x:List Int×List Int×Int) (ip:inI p) (ix:inI x.1) (iy:inI x.2.1) :
  ∃ r,f29 n kind p x=some r∧OfOk (tsm n d n.2.length) r:=by
 unfold f29 f29_j2 f29_j3
 have hk:∃ b,(bif decide (kind<(1:Int)) then some true else some (decide (kind>(3:Int))))=some b:=by
  cases decide (kind<(1:Int))
  ·exact ⟨_,rfl⟩
  ·exact ⟨_,rfl⟩
 obtain ⟨b,eb⟩:=hk
 rw [eb,Aa]
 cases b
 ·rw [cond_false,Aa,Ai]
  show ∃ r,Ac (some ()) _=some r∧_
  rw [Aa]
  obtain ⟨i,e,leafs,m,q,hr⟩:=runW n d N hs p x.1 ip ix
  have q2:f43 [] (n.1,n.2) p x.1=some (i,e,leafs,m):=q
  rw [q2,Aa]
  by_cases he:e=0
  ·obtain ⟨aT,aL,aS,aN⟩:=hr he
   rw [nF he,cond_false]
   simp only
   obtain ⟨root,e2,m2,q3,hf⟩:=farW aT kind i x iy
   have q4:f44 m kind i (x.1,x.2.1,x.2.2)=some (root,e2,m2):=q3
   rw [q4,Aa]
   by_cases he2:e2=0
   ·obtain ⟨oT,⟨s,hs2⟩,oI⟩:=hf he2
    obtain ⟨hroot,hlen⟩:=oI rfl
    obtain ⟨k,rfl⟩:=Int.eq_ofNat_of_zero_le (show 0≤root by omega)
    have hk:k<m2.length:=by omega
    rw [nF he2,cond_false]
    simp only
    obtain ⟨e5,ls,q5,h5⟩:=sweepW oT k hk
    rw [q5,Aa]
    by_cases he5:e5=0
    ·obtain ⟨w1,w2,w3⟩:=h5 he5
     rw [nF he5,cond_false]
     have hM:tsm n d n.2.length≤4096:=N.tM
     have aL2:InT m2 leafs:=by rw [hs2];exact inT_ext aL s
     have aS2:lsum m2 leafs≤tsm n d n.2.length:=by rw [hs2,lsum_ext _ _ _ aL];exact aS
     have aM:∀ y ∈ leafs,y<m.length:=fun y hy=>(aL y hy).2
     have split:∀ j:Nat,j≤leafs.length→lsum m2 (leafs.take j)+lsum m2 (leafs.drop j)=lsum m2 leafs:=fun j _=>by rw [← lsum_app,List.take_append_drop]
     have nonneg:∀ l:List Int,0≤lsum m2 l:=fun l=>by
      induction l with
      | nil=>exact Int.le_refl _
      | cons y r ih=>have:=Av (nd m2 y.toNat).1;simp only [lsum];omega
     have LL:=Ds (B:=fun go (y:Int×List Int)=>f29_l4 (i,e,leafs,m) (e5,ls,m2) go y.1 y.2)
      (fun j y=>y.1=(j:Int)∧inI y.2∧(y.2.length:Int)=lsum m2 (leafs.take j)) (fun z=>inI z∧(z.length:Int)=lsum m2 leafs) leafs.length ((0:Int),[]) ⟨rfl,Bm,rfl⟩ ?_ ?_ (by omega)
     ·obtain ⟨z,ez,hz1,hz2⟩:=LL
      rw [ez,Aa]
      simp only
      have gr:=oT.tG k hk
      obtain ⟨gp,gl,_,_⟩:=Aq gr.1
      rw [valueP m2 (k:Int) oT.tG,Aa,vl_nat m2 k hk]
      simp only
      rw [Ab]
      exact ⟨_,rfl,fun _=>⟨Dr gr.2 0 (by omega),hz1,by simp only;omega⟩⟩
     ·rintro j hj ⟨_,l2⟩ ⟨rfl,il,hl⟩
      simp only at il hl
      have hmem:leafs[j] ∈ leafs:=List.getElem_mem hj
      have hb:=aL2 _ hmem
      have hb2:=aM _ hmem
      obtain ⟨y,hy⟩:=Int.eq_ofNat_of_zero_le hb.1
      have er:rd (0:Int) leafs (j:Int)=(y:Int):=by rw [Bi _ _ _ hj];exact hy
      have hyk:y≤k:=by omega
      have e6:=w2 y hyk
      have sp:=split (j+1) (by omega)
      rw [List.take_succ_eq_append_getElem hj,lsum_app] at sp
      simp only [lsum] at sp
      rw [hy,Int.toNat_natCast] at sp
      have nn:=nonneg (leafs.drop (j+1))
      have g3:(List.length l2+List.length ((rd (Ty.z (.p (.sl (.int .i64)) (.sl (.int .i64)))) ls (y:Int)).2))*8≤140737488355328:=by
       have e7:(((rd (Ty.z (.p (.sl (.int .i64)) (.sl (.int .i64)))) ls (y:Int)).2.length:Nat):Int)=prd (nd m2 y).1:=e6
       omega
      refine ⟨(((j+1:Nat):Int),l2++(rd Z2 ls (y:Int)).2),fun go=>?_,rfl,fun v hv=>?_,?_⟩
      ·unfold f29_l4
       simp only
       rw [dT,cond_true,Ab,er,Ab,Ab g3,Bp j]
      ·rcases List.mem_append.1 hv with hv | hv
       ·exact il v hv
       ·exact w3 y hyk v hv
      ·simp only
       rw [List.length_append,List.take_succ_eq_append_getElem hj,lsum_app]
       simp only [lsum]
       rw [hy,Int.toNat_natCast]
       omega
     ·rintro ⟨_,l2⟩ ⟨rfl,il,hl⟩
      rw [List.take_length] at hl
      refine ⟨l2,fun go=>?_,il,hl⟩
      unfold f29_l4
      simp only
      rw [dF,cond_false]
    ·rw [nT he5,cond_true];exact ⟨_,rfl,fun h=>absurd h he5⟩
   ·rw [nT he2,cond_true];exact ⟨_,rfl,fun h=>absurd h he2⟩
  ·rw [nT he,cond_true];exact ⟨_,rfl,fun h=>absurd h he⟩
 ·rw [cond_true,Aa,As];exact ⟨_,rfl,fun h=>absurd h (by decide)⟩
open Go.Proofs.PlV (pair far)
abbrev Exm:=List Int×List Int×Int
abbrev zEx:Exm:=Ty.z (.p (.sl (.int .i64)) (.p (.sl (.int .i64)) (.int .i64)))
abbrev zW:Int×Int:=Ty.z (.p (.int .i64) (.int .u64))
def ExOk (x:Exm):Prop:=inI x.1∧inI x.2.1
section
variable (n:Nt) (kind:Int) (p:List Int)
def gx (x:Exm):Int×Int×List Int:=(f29 n kind p x).getD (0,1,[])
def gv (x:Exm):Int:=if (gx n kind p x).2.1=0 then (gx n kind p x).1 else 0
def gg (x:Exm):List Int:=if (gx n kind p x).2.1=0 then (gx n kind p x).2.2 else []
def er:List Exm→Int
 | []=>0
 | x::r=>if (gx n kind p x).2.1=0 then er r else (gx n kind p x).2.1
def lS:List Exm→Int
 | []=>0
 | x::r=>gv n kind p x+lS r
def gS (j:Nat):List Exm→Int
 | []=>0
 | x::r=>rd (0:Int) (gg n kind p x) (j:Int)+gS j r
theorem er_c0 {x:Exm} (r:List Exm) (h:(gx n kind p x).2.1=0):er n kind p (x::r)=er n kind p r:=if_pos h
theorem er_c1 {x:Exm} (r:List Exm) (h:¬(gx n kind p x).2.1=0):er n kind p (x::r)=(gx n kind p x).2.1:=if_neg h
theorem lS_app:∀ a b:List Exm,lS n kind p (a++b)=lS n kind p a+lS n kind p b
 | [],b=>by simp [lS]
 | x::a,b=>by simp only [List.cons_append,lS];rw [lS_app a b];omega
theorem gS_app (j:Nat):∀ a b:List Exm,gS n kind p j (a++b)=gS n kind p j a+gS n kind p j b
 | [],b=>by simp [gS]
 | x::a,b=>by simp only [List.cons_append,gS];rw [gS_app j a b];omega
theorem lS_rev:∀ a:List Exm,lS n kind p a.reverse=lS n kind p a
 | []=>rfl
 | x::a=>by rw [List.reverse_cons,lS_app,lS_rev a];simp only [lS];omega
theorem gS_rev (j:Nat):∀ a:List Exm,gS n kind p j a.reverse=gS n kind p j a
 | []=>rfl
 | x::a=>by rw [List.reverse_cons,gS_app,gS_rev j a];simp only [gS];omega
theorem er_zero:∀ a:List Exm,er n kind p a=0↔∀ x ∈ a,(gx n kind p x).2.1=0
 | []=>by simp [er]
 | x::a=>by
  simp only [er,List.mem_cons,forall_eq_or_imp]
  by_cases h:(gx n kind p x).2.1=0
  ·rw [if_pos h,er_zero a];exact ⟨fun hh=>⟨h,hh⟩,fun hh=>hh.2⟩
  ·rw [if_neg h];exact ⟨fun hh=>absurd hh h,fun hh=>absurd hh.1 h⟩
theorem er_rev (a:List Exm):er n kind p a.reverse=0↔er n kind p a=0:=by
 rw [er_zero,er_zero]
 exact ⟨fun h x hx=>h x (List.mem_reverse.2 hx),fun h x hx=>h x (List.mem_reverse.1 hx)⟩
end
theorem rd_in {l:List Int} (h:inI l) (j:Nat):InR (rd (0:Int) l (j:Int)):=by
 by_cases hj:j<l.length
 ·exact Dr h j hj
 ·rw [show rd (0:Int) l (j:Int)=0 by simp [rd,List.getD,hj]];decide
theorem rd_out (l:List Int) (j:Nat) (hj:l.length≤j):rd (0:Int) l (j:Int)=0:=by
 simp [rd,List.getD,show ¬j<l.length by omega]
structure Can (n:Nt) (d:List (List Int)) (kind:Int) (p:List Int):Prop where
 cN:Net1 n d
 cS:f40 n=some (0,d)
 cP:inI p
section
variable {n:Nt} {d:List (List Int)} {kind:Int} {p:List Int} (C:Can n d kind p)
include C
theorem gx_ok (x:Exm) (hx:ExOk x):f29 n kind p x=some (gx n kind p x)∧InR (gv n kind p x)∧inI (gg n kind p x)∧((gg n kind p x).length:Int)≤tsm n d n.2.length:=by
 obtain ⟨r,e,h⟩:=ofW n d C.cN C.cS kind p x C.cP hx.1 hx.2
 have eg:gx n kind p x=r:=by unfold gx;rw [e];rfl
 unfold gv gg
 rw [eg]
 have:=(tsm_range n d n.2.length).1
 by_cases h0:r.2.1=0
 ·rw [if_pos h0,if_pos h0]
  obtain ⟨a,b,c⟩:=h h0
  exact ⟨e,a,b,c⟩
 ·rw [if_neg h0,if_neg h0];exact ⟨e,by decide,Bm,by simp only [List.length_nil];omega⟩
theorem lS_in:∀ l:List Exm,(∀ x ∈ l,ExOk x)→-(l.length*9223372036854775808)≤lS n kind p l∧lS n kind p l≤l.length*9223372036854775808
 | [],_=>by simp [lS]
 | x::r,h=>by
  have:=lS_in r (fun y hy=>h y (List.mem_cons_of_mem _ hy))
  obtain ⟨_,a,_⟩:=gx_ok C x (h x (by simp))
  unfold InR at a
  simp only [lS,List.length_cons]
  omega
theorem gS_in (j:Nat):∀ l:List Exm,(∀ x ∈ l,ExOk x)→-(l.length*9223372036854775808)≤gS n kind p j l∧gS n kind p j l≤l.length*9223372036854775808
 | [],_=>by simp [gS]
 | x::r,h=>by
  have:=gS_in j r (fun y hy=>h y (List.mem_cons_of_mem _ hy))
  obtain ⟨_,_,a,_⟩:=gx_ok C x (h x (by simp))
  have a:=rd_in a j
  unfold InR at a
  simp only [gS,List.length_cons]
  omega
theorem far_l (l:List Exm) (h:∀ x ∈ l,ExOk x) (hl:l.length≤12):far (lS n kind p l):=by
 have:=lS_in C l h
 unfold far;omega
theorem far_g (j:Nat) (l:List Exm) (h:∀ x ∈ l,ExOk x) (hl:l.length≤12):far (gS n kind p j l):=by
 have:=gS_in C j l h
 unfold far;omega
def tabG (n:Nt) (d:List (List Int)) (kind:Int) (p:List Int) (l:List Exm):List (Int×Int):=Ao (tsm n d n.2.length).toNat (fun j=>pair (gS n kind p j l))
theorem sum_row (l:List Exm) (x:Exm) (h:∀ y ∈ l++[x],ExOk y) (hl:l.length≤11) (e0:(gx n kind p x).2.1=0) :
  Ag (fun go (y:Int×List (Int×Int))=>f21_l4 (gx n kind p x) go y.1 y.2) Ah ((0:Int),tabG n d kind p l)=some (tabG n d kind p (l++[x])):=by
 obtain ⟨_,_,ig,hM⟩:=gx_ok C x (h x (by simp))
 have eg:gg n kind p x=(gx n kind p x).2.2:=by unfold gg;rw [if_pos e0]
 have ag:∀ j,gS n kind p j (l++[x])=gS n kind p j l+rd (0:Int) (gg n kind p x) (j:Int):=fun j=>by rw [gS_app];simp only [gS];omega
 have hM2:=(tsm_range n d n.2.length).1
 have hM3:=C.cN.tM
 have L:=Ba (B:=fun go (y:Int×List (Int×Int))=>f21_l4 (gx n kind p x) go y.1 y.2)
  (fun k=>((k:Int),Ao (tsm n d n.2.length).toNat (fun j=>if j<k then pair (gS n kind p j (l++[x])) else pair (gS n kind p j l)))) (gg n kind p x).length (tabG n d kind p (l++[x])) ?_ ?_ (by omega)
 ·have e1:tabG n d kind p l=Ao (tsm n d n.2.length).toNat (fun j=>if j<0 then pair (gS n kind p j (l++[x])) else pair (gS n kind p j l)):=Au _ _ _ (fun j hj=>by rw [iNo])
  rw [e1];exact L
 ·intro k hk go
  have r1:=rd_in ig k
  have f1:=far_g C k l (fun y hy=>h y (List.mem_append_left _ hy)) (by omega)
  have f2:=far_g C k (l++[x]) h (by rw [List.length_append];simp;omega)
  unfold f21_l4
  simp only [Ap]
  rw [← eg,dT,cond_true,Ab,Ab]
  have er2:rd zW (Ao (tsm n d n.2.length).toNat (fun j=>if j<k then pair (gS n kind p j (l++[x])) else pair (gS n kind p j l))) (k:Int)=pair (gS n kind p k l):=by
   rw [Di _ _ _ _ (by omega),iNo]
  rw [PlV.of_ok _ r1.1 r1.2,Aa]
  have ea:f31 ((rd zW (Ao (tsm n d n.2.length).toNat (fun j=>if j<k then pair (gS n kind p j (l++[x])) else pair (gS n kind p j l))) (k:Int)).1,(rd zW (Ao (tsm n d n.2.length).toNat (fun j=>if j<k then pair (gS n kind p j (l++[x])) else pair (gS n kind p j l))) (k:Int)).2) ((pair (rd (0:Int) (gg n kind p x) (k:Int))).1,(pair (rd (0:Int) (gg n kind p x) (k:Int))).2)=some (pair (gS n kind p k (l++[x]))):=by
   rw [er2,ag k]
   have:=PlV.add_w (gS n kind p k l) (rd (0:Int) (gg n kind p x) (k:Int)) f1 (by unfold far;unfold InR at r1;omega) (by rw [← ag k];exact f2)
   exact this
  have ea2:f31 ((rd (Ty.z (.p (.int .i64) (.int .u64))) (Ao (tsm n d n.2.length).toNat (fun j=>if j<k then pair (gS n kind p j (l++[x])) else pair (gS n kind p j l))) (k:Int)).1,(rd (Ty.z (.p (.int .i64) (.int .u64))) (Ao (tsm n d n.2.length).toNat (fun j=>if j<k then pair (gS n kind p j (l++[x])) else pair (gS n kind p j l))) (k:Int)).2) ((pair (rd (0:Int) (gg n kind p x) (k:Int))).1,(pair (rd (0:Int) (gg n kind p x) (k:Int))).2)=some (pair (gS n kind p k (l++[x]))):=ea
  rw [ea2,Aa,Ab,Bp k,Int.toNat_natCast]
  have es:List.set (Ao (tsm n d n.2.length).toNat (fun j=>if j<k then pair (gS n kind p j (l++[x])) else pair (gS n kind p j l))) k ((pair (gS n kind p k (l++[x]))).1,(pair (gS n kind p k (l++[x]))).2)=Ao (tsm n d n.2.length).toNat (fun j=>if j<k+1 then pair (gS n kind p j (l++[x])) else pair (gS n kind p j l)):=by
   rw [Dd]
   refine Au _ _ _ (fun j hj=>?_)
   by_cases e:j=k
   ·rw [if_pos e,iPo,e]
   ·rw [if_neg e]
    by_cases e2:j<k
    ·rw [if_pos e2,iPo]
    ·rw [if_neg e2,iNo]
  rw [es]
 ·intro go
  unfold f21_l4
  simp only [Ap]
  rw [← eg,dF,cond_false]
  congr 1
  refine Au _ _ _ (fun j hj=>?_)
  by_cases e:j<(gg n kind p x).length
  ·rw [if_pos e]
  ·rw [if_neg e,ag j,rd_out _ _ (by omega),Int.add_zero]
theorem sum_loop (l:List Exm) (h:∀ y ∈ l,ExOk y) (hl:l.length≤12):∀ (r m k:Nat),k+r=l.length→r<m→
  Ag (fun go (x:Int×List (Int×Int)×Int×Int)=>f21_l3 n kind p l go x.1 x.2.1 x.2.2.1 x.2.2.2) m ((k:Int),tabG n d kind p (l.take k),(pair (lS n kind p (l.take k))).1,(pair (lS n kind p (l.take k))).2) =
   some (if er n kind p (l.drop k)=0 then Sum.inr (tabG n d kind p l,(pair (lS n kind p l)).1,(pair (lS n kind p l)).2) else Sum.inl (er n kind p (l.drop k)))
 | 0,0,k,h1,h2=>absurd h2 (by omega)
 | 0,m+1,k,h1,h2=>by
  obtain rfl:k=l.length:=by omega
  rw [Bj]
  unfold f21_l3
  simp only
  rw [dF,cond_false,List.drop_length,List.take_length]
  rfl
 | r+1,0,k,h1,h2=>absurd h2 (by omega)
 | r+1,m+1,k,h1,h2=>by
  have hk:k<l.length:=by omega
  rw [Bj]
  have hx:=h l[k] (List.getElem_mem hk)
  obtain ⟨eo,iv,_,_⟩:=gx_ok C l[k] hx
  have ed:l.drop k=l[k]::l.drop (k+1):=List.drop_eq_getElem_cons hk
  have er1:rd zEx l (k:Int)=l[k]:=Bi _ _ _ hk
  have eo2:f29 (n.1,n.2) kind p ((rd (Ty.z (.p (.sl (.int .i64)) (.p (.sl (.int .i64)) (.int .i64)))) l (k:Int)).1,((rd (Ty.z (.p (.sl (.int .i64)) (.p (.sl (.int .i64)) (.int .i64)))) l (k:Int)).2).1,((rd (Ty.z (.p (.sl (.int .i64)) (.p (.sl (.int .i64)) (.int .i64)))) l (k:Int)).2).2)=some (gx n kind p l[k]):=by
   have:f29 n kind p (rd zEx l (k:Int))=some (gx n kind p l[k]):=by rw [er1];exact eo
   exact this
  have start:∀ go,f21_l3 n kind p l go (k:Int) (tabG n d kind p (l.take k)) (pair (lS n kind p (l.take k))).1 (pair (lS n kind p (l.take k))).2=if (gx n kind p l[k]).2.1=0 then go (((k+1:Nat):Int),tabG n d kind p (l.take (k+1)),(pair (lS n kind p (l.take (k+1)))).1,(pair (lS n kind p (l.take (k+1)))).2) else some (Sum.inl (gx n kind p l[k]).2.1):=fun go=>by
   unfold f21_l3
   rw [dT,cond_true,Ab,eo2,Aa]
   by_cases h0:(gx n kind p l[k]).2.1=0
   ·have et:l.take (k+1)=l.take k++[l[k]]:=List.take_succ_eq_append_getElem hk
    have hin:∀ y ∈ l.take k++[l[k]],ExOk y:=fun y hy=>by rw [← et] at hy;exact h y (List.mem_of_mem_take hy)
    have ev:gv n kind p l[k]=(gx n kind p l[k]).1:=by unfold gv;rw [if_pos h0]
    have hr:=sum_row C (l.take k) l[k] hin (by rw [List.length_take];omega) h0
    rw [nF h0,cond_false,if_pos h0,hr,Aa,← ev,PlV.of_ok _ iv.1 iv.2,Aa]
    have f1:=far_l C (l.take k) (fun y hy=>h y (List.mem_of_mem_take hy)) (by rw [List.length_take];omega)
    have f2:=far_l C (l.take k++[l[k]]) hin (by rw [← et,List.length_take];omega)
    have e2:lS n kind p (l.take k++[l[k]])=lS n kind p (l.take k)+gv n kind p l[k]:=by rw [lS_app];simp only [lS];omega
    have ea:f31 ((pair (lS n kind p (l.take k))).1,(pair (lS n kind p (l.take k))).2) ((pair (gv n kind p l[k])).1,(pair (gv n kind p l[k])).2)=some (pair (lS n kind p (l.take k++[l[k]]))):=by
     rw [e2] at f2 ⊢
     have:=PlV.add_w (lS n kind p (l.take k)) (gv n kind p l[k]) f1 (by unfold far;unfold InR at iv;omega) f2
     exact this
    rw [ea,Aa,Bp k,et]
   ·rw [nT h0,cond_true,if_neg h0]
  simp only
  rw [start,ed]
  by_cases h0:(gx n kind p l[k]).2.1=0
  ·rw [if_pos h0,er_c0 n kind p _ h0,sum_loop l h hl r m (k+1) (by omega) (by omega)]
  ·rw [if_neg h0,er_c1 n kind p _ h0,if_neg h0]
theorem gsum_ok (l:List Exm) (h:∀ y ∈ l,ExOk y) (hl:l.length≤12) (hP:f28 n=some (tsm n d n.2.length,0)) :
  f21 n kind p l=some (if er n kind p l=0 then ((pair (lS n kind p l)).1,(pair (lS n kind p l)).2,0,tabG n d kind p l) else (0,0,er n kind p l,[])):=by
 have hM2:=(tsm_range n d n.2.length).1
 have hM3:=C.cN.tM
 unfold f21
 have hP2:f28 (n.1,n.2)=some (tsm n d n.2.length,0):=hP
 have L:=sum_loop C l h hl l.length Ah 0 (by omega) (by show l.length<18446744073709551616;omega)
 have e0:tabG n d kind p (l.take 0)=List.replicate (Int.toNat (tsm n d n.2.length)) (Ty.z (.p (.int .i64) (.int .u64))):=by
  rw [Ej];rfl
 rw [e0] at L
 have L':Ag (fun go (x:Int×List (Int×Int)×Int×Int)=>f21_l3 n kind p l go x.1 x.2.1 x.2.2.1 x.2.2.2) Ah ((0:Int),List.replicate (Int.toNat (tsm n d n.2.length)) (Ty.z (.p (.int .i64) (.int .u64))),(0:Int),(0:Int))=_:=L
 rw [hP2,Aa,nF rfl,cond_false,Ab]
 simp only
 rw [L',Aa]
 simp only [List.drop_zero]
 by_cases h0:er n kind p l=0
 ·rw [if_pos h0,if_pos h0];rfl
 ·rw [if_neg h0,if_neg h0];rfl
end
def DD (d:List Int):Prop:=d.length≤2∧∀ x ∈ d,1≤x∧x≤1024
structure RS (k:Nat) (all:Int) (l:List (List Int)):Prop where
 sL:l.length=k+1
 sDD:∀ i,i≤k→DD (dm l i)
 sA:0≤all∧all≤4097
theorem cloneF (d:List Int) (hl:d.length≤4096):f24 d=some d:=PlB.clone_v d (by omega)
theorem mean_in (V:Int) (hV : -1000000000000000000000000≤V∧V≤1000000000000000000000000) (m b:Int) (m0:1≤m) (m1:m≤256) (hb:InR b) (b0:0≤b):∃ v,f35 (pair V) m b=some v∧InR v:=by
 unfold f35
 have e:f53 ((pair V).1,(pair V).2) m=some (sat (rdI V m)):=over_ok V m (by omega) (by omega) (by omega) (by omega) (by omega)
 rw [e,Aa]
 have hs:=Bt (rdI V m)
 unfold InR at hs hb ⊢
 by_cases h0:b=0
 ·rw [bT h0];exact ⟨_,rfl,hs⟩
 ·rw [bF h0,cond_false,Ae]
  refine ⟨_,rfl,?_⟩
  split <;> split <;> omega
structure Rt (r:Int×Int×Int):Prop where
 rt1:InR r.1
 rt2:InR r.2.1
 rt3:InR r.2.2
 rt0:0≤r.2.2
theorem applyW (P M:List Int) (N:Nat) (V:Nat→Int) (m:Int) (r:Int×Int×Int) (hr:Rt r) (m0:1≤m) (m1:m≤256) (hN:N≤4096) (hP:P.length=N) (hM:M.length=N) (iP:inI P) (iM:inI M)
  (hV:∀ j,-1000000000000000000000000≤V j∧V j≤1000000000000000000000000) :
  ∃ P' M',f23 (P,M) (Ao N (fun j=>pair (V j))) m r=some (0,P',M')∧P'.length=N∧M'.length=N∧inI P'∧inI M':=by
 have hg:(Ao N (fun j=>pair (V j))).length=N:=Ap _ _
 have e3:f23_j3 (P,M) (Ao N (fun j=>pair (V j))) m r=some (Sum.inl ()):=by
  have:=hr.rt0
  unfold f23_j3 f23_j4 f23_j5
  simp only
  rw [nF,cond_false,nF,Aa,cond_false,dF,cond_false,Aa,dF,cond_false]
 have e6:f23_j6 (P,M)=some (P,M):=by
  unfold f23_j6
  simp only
  rw [cloneF P (by omega),Aa,cloneF M (by omega)];rfl
 unfold f23
 rw [e3,Aa,Ai,e6,Aa]
 simp only
 have LL:=Ds (B:=fun go (x:Int×List Int×List Int)=>f23_l7 (P,M) (Ao N (fun j=>pair (V j))) m r go x.1 x.2.1 x.2.2)
  (fun k x=>x.1=(k:Int)∧x.2.1.length=N∧x.2.2.length=N∧inI x.2.1∧inI x.2.2) (fun z=>z.1.length=N∧z.2.length=N∧inI z.1∧inI z.2) N ((0:Int),P,M) ⟨rfl,hP,hM,iP,iM⟩ ?_ ?_ (by omega)
 ·obtain ⟨z,ez,hz⟩:=LL
  rw [ez]
  exact ⟨_,_,rfl,hz⟩
 ·rintro k hk ⟨_,l4,l5⟩ ⟨rfl,h4,h5,i4,i5⟩
  simp only at h4 h5 i4 i5
  have a1:=Dr iM k (by omega)
  have a2:=Dr iP k (by omega)
  obtain ⟨v,ev,hv⟩:=mean_in (V k) (hV k) m r.2.2 m0 m1 hr.rt3 hr.rt0
  have er:rd zW (Ao N (fun j=>pair (V j))) (k:Int)=pair (V k):=Di _ _ _ _ hk
  have ev2:f35 ((rd zW (Ao N (fun j=>pair (V j))) (k:Int)).1,(rd zW (Ao N (fun j=>pair (V j))) (k:Int)).2) m r.2.2=some v:=by rw [er];exact ev
  have ev3:f35 ((rd (Ty.z (.p (.int .i64) (.int .u64))) (Ao N (fun j=>pair (V j))) (k:Int)).1,(rd (Ty.z (.p (.int .i64) (.int .u64))) (Ao N (fun j=>pair (V j))) (k:Int)).2) m r.2.2=some v:=ev2
  have b1:InR (El r.2.1 (rd (0:Int) M (k:Int))):=Bt _
  have b2:InR (addV (El r.2.1 (rd (0:Int) M (k:Int))) v):=Bt _
  have l5s:(List.set l5 k (addV (El r.2.1 (rd (0:Int) M (k:Int))) v)).length=N:=by rw [List.length_set];exact h5
  have er5:rd (0:Int) (List.set l5 k (addV (El r.2.1 (rd (0:Int) M (k:Int))) v)) (k:Int)=addV (El r.2.1 (rd (0:Int) M (k:Int))) v:=by
   rw [Bi _ _ _ (by omega),List.getElem_set,if_pos rfl]
  have b3:InR (El r.1 (addV (El r.2.1 (rd (0:Int) M (k:Int))) v)):=Bt _
  refine ⟨(((k+1:Nat):Int),List.set l4 k (subV (rd (0:Int) P (k:Int)) (El r.1 (addV (El r.2.1 (rd (0:Int) M (k:Int))) v))),List.set l5 k (addV (El r.2.1 (rd (0:Int) M (k:Int))) v)),fun go=>?_,rfl,
   by simp only [List.length_set];exact h4,by simp only [List.length_set];exact h5,inI_set i4 _ _ (Bt _),inI_set i5 _ _ b2⟩
  have r1:=hr.rt1
  have r2:=hr.rt2
  unfold f23_l7
  simp only
  rw [hg,dT,cond_true,Ab,Ab,mulF_ok _ _ r2.1 r2.2 a1.1 a1.2,Aa,ev3,Aa,addF_ok _ _ b1.1 b1.2 hv.1 hv.2,Aa,Ab,Ab,Int.toNat_natCast,
   Ab,er5,mulF_ok _ _ r1.1 r1.2 b2.1 b2.2,Aa,subF_ok _ _ a2.1 a2.2 b3.1 b3.2,Aa,Ab,Bp k]
 ·rintro ⟨_,l4,l5⟩ ⟨rfl,h4,h5,i4,i5⟩
  refine ⟨(l4,l5),fun go=>?_,h4,h5,i4,i5⟩
  unfold f23_l7
  simp only
  rw [hg,dF,cond_false]
def plcs (T b st:Int) (k:Nat):Int:=(((st%T)*b)%T+k)%T
theorem plcs_in (T b st:Int) (k:Nat) (T1:1≤T):0≤plcs T b st k∧plcs T b st k<T:=⟨Int.emod_nonneg _ (by omega),Int.emod_lt_of_pos _ (by omega)⟩
theorem plcs_all (T st:Int) (k:Nat) (T1:1≤T) (hk:(k:Int)<T):plcs T T st k=k:=by
 unfold plcs
 rw [Int.mul_emod_left,Int.zero_add,Int.emod_eq_of_lt (by omega) hk]
theorem batchW (T b st:Int) (T1:1≤T) (T8:T≤8) (b1:1≤b) (bT':b≤T) (s0:0≤st):f20 T b st=some (0,Ao b.toNat (plcs T b st)):=by
 have ej:f20_j1 T b st=some (Sum.inl ()):=by
  unfold f20_j1
  rw [dF,cond_false,dF,cond_false,dF,cond_false,dF,cond_false,dF,cond_false]
 unfold f20
 rw [ej,Aa,Ai,Ab,Ab]
 have q0:=Int.emod_nonneg st (show T≠0 by omega)
 have q1:=Int.emod_lt_of_pos st (show 0<T by omega)
 have m0:=Int.mul_nonneg q0 (show 0≤b by omega)
 have m1:=Int.mul_le_mul (show st%T≤8 by omega) (show b≤8 by omega) (by omega) (by omega)
 have e1:Int.tmod (IntKind.i64.wrap ((Int.tmod st T)*b)) T=((st%T)*b)%T:=by
  rw [Int.tmod_eq_emod_of_nonneg s0,Ae,Int.tmod_eq_emod_of_nonneg m0]
 have a0:=Int.emod_nonneg ((st%T)*b) (show T≠0 by omega)
 have a1:=Int.emod_lt_of_pos ((st%T)*b) (show 0<T by omega)
 have L:=Ba (B:=fun go (x:Int×List Int)=>f20_l2 T b st go x.1 x.2) (fun k=>((k:Int),Ao k (plcs T b st))) b.toNat (Ao b.toNat (plcs T b st)) ?_ ?_ (by omega)
 ·have L':Ag (fun go (x:Int×List Int)=>f20_l2 T b st go x.1 x.2) Ah ((0:Int),[])=_:=L
  rw [L'];rfl
 ·intro k hk go
  have e2:Int.tmod (IntKind.i64.wrap (Int.tmod (IntKind.i64.wrap ((Int.tmod st T)*b)) T+(k:Int))) T=plcs T b st k:=by
   rw [e1,Ae,Int.tmod_eq_emod_of_nonneg (by omega)];rfl
  have g3:(List.length (Ao k (plcs T b st))+List.length [plcs T b st k])*8≤140737488355328:=by rw [Ap];simp only [List.length_cons,List.length_nil];omega
  unfold f20_l2
  simp only
  rw [dT,cond_true,Ab,e2,Ab g3,Bp k]
  congr 2
  simp [Ao,List.range_succ]
 ·intro go
  unfold f20_l2
  simp only
  rw [dF,cond_false]
abbrev Jb:=Nt×Int×Int×(Int×Int×Int)×(List Exm)×(List Int)
theorem examplesW (j:Jb) (N:Nat) (hN:N≤8) (f:Nat→Int) (hf:∀ k,k<N→0≤f k∧f k<j.2.2.2.2.1.length):f22 j (Ao N f)=some (Ao N (fun k=>rd zEx j.2.2.2.2.1 (f k))):=by
 have hl:(Ao N f).length=N:=Ap _ _
 unfold f22
 have L:=Ba (B:=fun go (x:Int×List Exm)=>f22_l1 j (Ao N f) go x.1 x.2) (fun k=>((k:Int),Ao k (fun k=>rd zEx j.2.2.2.2.1 (f k)))) N (Ao N (fun k=>rd zEx j.2.2.2.2.1 (f k))) ?_ ?_ (by omega)
 ·have L':Ag (fun go (x:Int×List Exm)=>f22_l1 j (Ao N f) go x.1 x.2) Ah ((0:Int),[])=_:=L
  rw [L'];rfl
 ·intro k hk go
  have er:rd (0:Int) (Ao N f) (k:Int)=f k:=Di _ _ _ _ hk
  have hfk:=hf k hk
  have g3:(List.length (Ao k (fun k=>rd zEx j.2.2.2.2.1 (f k)))+List.length [((rd (Ty.z (.p (.sl (.int .i64)) (.p (.sl (.int .i64)) (.int .i64)))) j.2.2.2.2.1 (f k)).1,((rd (Ty.z (.p (.sl (.int .i64)) (.p (.sl (.int .i64)) (.int .i64)))) j.2.2.2.2.1 (f k)).2).1,((rd (Ty.z (.p (.sl (.int .i64)) (.p (.sl (.int .i64)) (.int .i64)))) j.2.2.2.2.1 (f k)).2).2)])*56≤140737488355328:=by
   rw [Ap];simp only [List.length_cons,List.length_nil];omega
  unfold f22_l1
  simp only
  rw [hl,dT,cond_true,Ab,er,Ab hfk,Ab g3,Bp k]
  congr 2
  simp [Ao,List.range_succ]
 ·intro go
  unfold f22_l1
  simp only
  rw [hl,dF,cond_false]
theorem tab_self (l:List Exm):Ao l.length (fun k=>rd zEx l (k:Int))=l:=by
 refine List.ext_getElem (by rw [Ap]) (fun i h1 h2=>?_)
 rw [tab_get,Bi _ _ _ h2]
structure TOk (n:Nt) (d:List (List Int)) (kind b:Int) (r:Int×Int×Int) (D:List Exm) (P M:List Int) (st:Int):Prop where
 tC:Can n d kind P
 tPr:f28 n=some (tsm n d n.2.length,0)
 tD:∀ x ∈ D,ExOk x
 tD8:1≤D.length∧D.length≤8
 tB:1≤b∧b≤D.length
 tR:Rt r
 tP:P.length=(tsm n d n.2.length).toNat
 tMl:M.length=(tsm n d n.2.length).toNat
 tMi:inI M
 tst:0≤st∧st≤10000
def exs (D:List Exm) (b st:Int):List Exm:=Ao b.toNat (fun k=>rd zEx D (plcs D.length b st k))
theorem exs_ok {D:List Exm} (b st:Int) (h:∀ x ∈ D,ExOk x) (h1:1≤D.length):∀ x ∈ exs D b st,ExOk x:=fun x hx=>by
 obtain ⟨k,hk,rfl⟩:=List.mem_map.1 hx
 obtain ⟨p0,p1⟩:=plcs_in D.length b st k (by omega)
 obtain ⟨i,hi⟩:=Int.eq_ofNat_of_zero_le p0
 rw [hi,Bi _ _ _ (by omega)]
 exact h _ (List.getElem_mem _)
theorem exs_all (D:List Exm) (st:Int) (h1:1≤D.length):exs D D.length st=D:=by
 unfold exs
 rw [Int.toNat_natCast]
 refine (Au _ _ _ (fun k hk=>?_)).trans (tab_self D)
 rw [plcs_all _ _ _ (by omega) (by omega)]
theorem gS_small {n:Nt} {d:List (List Int)} {kind:Int} {p:List Int} (C:Can n d kind p) (j:Nat) (l:List Exm) (h:∀ x ∈ l,ExOk x) (hl:l.length≤8) : -1000000000000000000000000≤gS n kind p j l∧gS n kind p j l≤1000000000000000000000000:=by
 have:=gS_in C j l h
 omega
theorem stepW {n:Nt} {d:List (List Int)} {kind b:Int} {r:Int×Int×Int} {D:List Exm} {P M:List Int} {st:Int} (T:TOk n d kind b r D P M st) (hst:st≤9999) (jP:List Int) (hi lo:Int) :
  (er n kind P (exs D b st)≠0∧f8 n.1 n.2 kind b r.1 r.2.1 r.2.2 D jP P M st hi lo=some (er n kind P (exs D b st),n.1,n.2,kind,b,r.1,r.2.1,r.2.2,D,jP,st,hi,lo,P,M))∨
  (er n kind P (exs D b st)=0∧∃ P' M',f23 (P,M) (tabG n d kind P (exs D b st)) b r=some (0,P',M')∧
   f8 n.1 n.2 kind b r.1 r.2.1 r.2.2 D jP P M st hi lo=some (0,n.1,n.2,kind,b,r.1,r.2.1,r.2.2,D,jP,st+1,(pair (lS n kind P (exs D b st))).1,(pair (lS n kind P (exs D b st))).2,P',M')∧TOk n d kind b r D P' M' (st+1)):=by
 obtain ⟨D1,D8⟩:=T.tD8
 obtain ⟨b1,b2⟩:=T.tB
 obtain ⟨s0,s1⟩:=T.tst
 have hb:=batchW (D.length:Int) b st (by omega) (by omega) b1 b2 s0
 have hl:(Ao b.toNat (plcs (D.length:Int) b st)).length=b.toNat:=Ap _ _
 have hex:f22 ((n.1,n.2),kind,b,(r.1,r.2.1,r.2.2),D,jP) (Ao b.toNat (plcs (D.length:Int) b st))=some (exs D b st):=
  examplesW ((n.1,n.2),kind,b,(r.1,r.2.1,r.2.2),D,jP) b.toNat (by omega) _ (fun k _=>plcs_in _ _ _ _ (by omega))
 have hxo:=exs_ok (D:=D) b st T.tD D1
 have hxl:(exs D b st).length≤8:=by unfold exs;rw [Ap];omega
 have hs:=gsum_ok T.tC (exs D b st) hxo (by omega) T.tPr
 have hs2:f21 (n.1,n.2) kind P (exs D b st)=_:=hs
 unfold f8
 rw [hb,Aa,nF rfl,cond_false]
 unfold f8_j1
 simp only
 rw [hex,Aa,hs2,Aa,Aa]
 by_cases h0:er n kind P (exs D b st)=0
 ·refine .inr ⟨h0,?_⟩
  have hM:=T.tC.cN.tM
  obtain ⟨P',M',ea,l1,l2,i1,i2⟩:=applyW P M (tsm n d n.2.length).toNat (fun j=>gS n kind P j (exs D b st)) b r T.tR b1 (by omega) (by omega) T.tP T.tMl T.tC.cP T.tMi (fun j=>gS_small T.tC j _ hxo hxl)
  have ea2:f23 (P,M) (tabG n d kind P (exs D b st)) b r=some (0,P',M'):=ea
  have hbl:(List.length (Ao b.toNat (plcs (D.length:Int) b st)):Int)=b:=by rw [hl];omega
  have ea3:f23 (P,M) (tabG n d kind P (exs D b st)) b (r.1,r.2.1,r.2.2)=some (0,P',M'):=ea
  refine ⟨P',M',ea2,?_,⟨⟨T.tC.cN,T.tC.cS,i1⟩,T.tPr,T.tD,T.tD8,T.tB,T.tR,l1,l2,i2,by omega⟩⟩
  unfold f8_j2
  rw [if_pos h0,nF rfl,cond_false,hbl]
  simp only
  rw [ea3,Aa,Aa,nF rfl,cond_false,Ae]
 ·refine .inl ⟨h0,?_⟩
  rw [if_neg h0,nT h0,cond_true]
def jc (j:Jb) (Ar:Int):Prop:=1≤j.2.1∧j.2.1≤3∧1≤(j.2.2.2.2.1.length:Int)∧(j.2.2.2.2.1.length:Int)≤256∧1≤j.2.2.1∧j.2.2.1≤j.2.2.2.2.1.length∧0≤j.2.2.2.1.2.2∧(j.2.2.2.2.2.length:Int)=Ar
theorem good_j1 (j:Jb) (Ar e:Int):(f17_j1 j (Ar,e)=some (Sum.inl ())∧jc j Ar)∨(f17_j1 j (Ar,e)=some (Sum.inr ())∧¬jc j Ar):=by
 unfold f17_j1 jc
 by_cases h1:j.2.1<1
 ·rw [dT h1];exact .inr ⟨rfl,by omega⟩
 rw [dF h1,cond_false]
 by_cases h2:j.2.1>3
 ·rw [dT h2];exact .inr ⟨rfl,by omega⟩
 rw [dF h2,cond_false]
 by_cases h3:(List.length j.2.2.2.2.1:Int)<1
 ·rw [dT h3];exact .inr ⟨rfl,by omega⟩
 rw [dF h3,cond_false]
 by_cases h4:(List.length j.2.2.2.2.1:Int)>256
 ·rw [dT h4];exact .inr ⟨rfl,by omega⟩
 rw [dF h4,cond_false]
 by_cases h5:j.2.2.1<1
 ·rw [dT h5];exact .inr ⟨rfl,by omega⟩
 rw [dF h5,cond_false]
 by_cases h6:j.2.2.1>(List.length j.2.2.2.2.1:Int)
 ·rw [dT h6];exact .inr ⟨rfl,by omega⟩
 rw [dF h6,cond_false]
 by_cases h7:j.2.2.2.1.2.2<0
 ·rw [dT h7];exact .inr ⟨rfl,by omega⟩
 rw [dF h7,cond_false]
 by_cases h8:(List.length j.2.2.2.2.2:Int)=Ar
 ·rw [nF h8];exact .inl ⟨rfl,by omega⟩
 ·rw [nT h8];exact .inr ⟨rfl,by omega⟩
theorem good_loop (j:Jb) {d:List (List Int)} (C:Can j.1 d j.2.1 j.2.2.2.2.2) (h:∀ x ∈ j.2.2.2.2.1,ExOk x) (hl:j.2.2.2.2.1.length≤8):∀ (r m k:Nat),k+r=j.2.2.2.2.1.length→r<m→
  Ag (fun go x=>f17_l2 j go x) m (k:Int)=some (if er j.1 j.2.1 j.2.2.2.2.2 (j.2.2.2.2.1.drop k)=0 then Sum.inr () else Sum.inl (er j.1 j.2.1 j.2.2.2.2.2 (j.2.2.2.2.1.drop k)))
 | 0,0,k,h1,h2=>absurd h2 (by omega)
 | 0,m+1,k,h1,h2=>by
  obtain rfl:k=j.2.2.2.2.1.length:=by omega
  rw [Bj]
  unfold f17_l2
  rw [dF,cond_false,List.drop_length]
  rfl
 | r+1,0,k,h1,h2=>absurd h2 (by omega)
 | r+1,m+1,k,h1,h2=>by
  have hk:k<j.2.2.2.2.1.length:=by omega
  rw [Bj]
  obtain ⟨eo,_⟩:=gx_ok C j.2.2.2.2.1[k] (h _ (List.getElem_mem hk))
  have ed:j.2.2.2.2.1.drop k=j.2.2.2.2.1[k]::j.2.2.2.2.1.drop (k+1):=List.drop_eq_getElem_cons hk
  have er1:rd zEx j.2.2.2.2.1 (k:Int)=j.2.2.2.2.1[k]:=Bi _ _ _ hk
  have eo1:f29 j.1 j.2.1 j.2.2.2.2.2 (rd zEx j.2.2.2.2.1 (k:Int))=some (gx j.1 j.2.1 j.2.2.2.2.2 j.2.2.2.2.1[k]):=by rw [er1];exact eo
  have eo2:f29 (j.1.1,j.1.2) j.2.1 j.2.2.2.2.2 ((rd (Ty.z (.p (.sl (.int .i64)) (.p (.sl (.int .i64)) (.int .i64)))) j.2.2.2.2.1 (k:Int)).1,((rd (Ty.z (.p (.sl (.int .i64)) (.p (.sl (.int .i64)) (.int .i64)))) j.2.2.2.2.1 (k:Int)).2).1,((rd (Ty.z (.p (.sl (.int .i64)) (.p (.sl (.int .i64)) (.int .i64)))) j.2.2.2.2.1 (k:Int)).2).2)=_:=eo1
  rw [show f17_l2 j (Ag (fun go x=>f17_l2 j go x) m) (k:Int)=bif ((gx j.1 j.2.1 j.2.2.2.2.2 j.2.2.2.2.1[k]).2.1 != (0:Int)) then some (Sum.inl (gx j.1 j.2.1 j.2.2.2.2.2 j.2.2.2.2.1[k]).2.1) else Ag (fun go x=>f17_l2 j go x) m ((k+1:Nat):Int) from by
   unfold f17_l2
   rw [dT,cond_true,Ab,eo2,Aa,Bp k],ed]
  by_cases h0:(gx j.1 j.2.1 j.2.2.2.2.2 j.2.2.2.2.1[k]).2.1=0
  ·rw [nF h0,cond_false,er_c0 _ _ _ _ h0,good_loop j C h hl r m (k+1) (by omega) (by omega)]
  ·rw [nT h0,cond_true,er_c1 _ _ _ _ h0,if_neg h0]
theorem goodW (j:Jb) {d:List (List Int)} (C:Can j.1 d j.2.1 j.2.2.2.2.2) (hP:f28 j.1=some (tsm j.1 d j.1.2.length,0)) (h:∀ x ∈ j.2.2.2.2.1,ExOk x) (hl:j.2.2.2.2.1.length≤8) :
  (jc j (tsm j.1 d j.1.2.length)∧f17 j=some (er j.1 j.2.1 j.2.2.2.2.2 j.2.2.2.2.1))∨(¬jc j (tsm j.1 d j.1.2.length)∧f17 j=some 1):=by
 unfold f17
 have hP2:f28 (j.1.1,j.1.2)=some (tsm j.1 d j.1.2.length,0):=hP
 rw [hP2,Aa,nF rfl,cond_false]
 rcases good_j1 j (tsm j.1 d j.1.2.length) 0 with ⟨ej,hj⟩ | ⟨ej,hj⟩
 ·refine .inl ⟨hj,?_⟩
  have L:=good_loop j C h hl j.2.2.2.2.1.length Ah 0 (by omega) (by show j.2.2.2.2.1.length<18446744073709551616;omega)
  have L':Ag (fun go x=>f17_l2 j go x) Ah (0:Int)=_:=L
  rw [ej,Aa,Ai,L',Aa,List.drop_zero]
  by_cases h0:er j.1 j.2.1 j.2.2.2.2.2 j.2.2.2.2.1=0
  ·rw [if_pos h0,h0,As]
  ·rw [if_neg h0,Ai]
 ·refine .inr ⟨hj,?_⟩
  rw [ej,Aa,As]
theorem good_bad (j:Jb) (e:Int) (he:e≠0) (hP:f28 j.1=some (0,e)):f17 j=some e:=by
 unfold f17
 have hP2:f28 (j.1.1,j.1.2)=some (0,e):=hP
 rw [hP2,Aa,nT he,cond_true]
theorem copyW (j:Jb) (hn:j.1.1.length≤4∧j.1.2.length≤6) (hl:j.2.2.2.2.1.length≤8) (hp:j.2.2.2.2.2.length≤4096) (hx:∀ x ∈ j.2.2.2.2.1,x.1.length≤30∧x.2.1.length≤30) :
  f18 j=some (j.2.1,j.2.2.1,j.2.2.2.1.1,j.2.2.2.1.2.1,j.2.2.2.1.2.2,j.1.1,j.1.2,j.2.2.2.2.1,j.2.2.2.2.2):=by
 have hly:f48 j.1.2=some j.1.2:=by
  unfold f48
  have g:(List.length ([]:List Lay)+List.length j.1.2)*32≤140737488355328:=by simp only [List.length_nil];omega
  cases h:j.1.2 with
  | nil=>rfl
  | cons a b=>rw [h] at g;exact Ab g
 unfold f18 f30
 simp only
 rw [cloneS _ (by omega),Aa,hly,Aa,Aa,cloneF _ hp,Aa]
 have L:=Ba (B:=fun go (x:Int×List Exm)=>f18_l1 j go x.1 x.2) (fun k=>((k:Int),j.2.2.2.2.1.take k)) j.2.2.2.2.1.length j.2.2.2.2.1 ?_ ?_ (by omega)
 ·have L':Ag (fun go (x:Int×List Exm)=>f18_l1 j go x.1 x.2) Ah ((0:Int),[])=_:=L
  rw [L'];rfl
 ·intro k hk go
  have er1:rd zEx j.2.2.2.2.1 (k:Int)=j.2.2.2.2.1[k]:=Bi _ _ _ hk
  obtain ⟨x1,x2⟩:=hx _ (List.getElem_mem hk)
  have c1:f24 ((rd (Ty.z (.p (.sl (.int .i64)) (.p (.sl (.int .i64)) (.int .i64)))) j.2.2.2.2.1 (k:Int)).1)=some (j.2.2.2.2.1[k].1):=by
   have:f24 (rd zEx j.2.2.2.2.1 (k:Int)).1=some (j.2.2.2.2.1[k].1):=by rw [er1];exact cloneF _ (by omega)
   exact this
  have c2:f24 (((rd (Ty.z (.p (.sl (.int .i64)) (.p (.sl (.int .i64)) (.int .i64)))) j.2.2.2.2.1 (k:Int)).2).1)=some (j.2.2.2.2.1[k].2.1):=by
   have:f24 (rd zEx j.2.2.2.2.1 (k:Int)).2.1=some (j.2.2.2.2.1[k].2.1):=by rw [er1];exact cloneF _ (by omega)
   exact this
  have e3:((rd (Ty.z (.p (.sl (.int .i64)) (.p (.sl (.int .i64)) (.int .i64)))) j.2.2.2.2.1 (k:Int)).2).2=j.2.2.2.2.1[k].2.2:=by
   have:(rd zEx j.2.2.2.2.1 (k:Int)).2.2=j.2.2.2.2.1[k].2.2:=by rw [er1]
   exact this
  have g3:(List.length (j.2.2.2.2.1.take k)+List.length [(j.2.2.2.2.1[k].1,j.2.2.2.2.1[k].2.1,j.2.2.2.2.1[k].2.2)])*56≤140737488355328:=by
   simp only [List.length_cons,List.length_nil,List.length_take];omega
  unfold f18_l1
  simp only
  rw [dT,cond_true,Ab,c1,Aa,c2,Aa,e3,Ab g3,Bp k,List.take_succ_eq_append_getElem hk]
 ·intro go
  unfold f18_l1
  simp only
  rw [dF,cond_false,List.take_length]
structure JT (j:Jb):Prop where
 jn:j.1.1.length≤4∧j.1.2.length≤5
 jl:j.2.2.2.2.1.length≤8
 jp:j.2.2.2.2.2.length≤50
 jx:∀ x ∈ j.2.2.2.2.1,x.1.length≤30∧x.2.1.length≤30
structure JR (j:Jb):Prop where
 jr:InR j.2.2.2.1.1∧InR j.2.2.2.1.2.1∧InR j.2.2.2.1.2.2
 jd:∀ x ∈ j.2.2.2.2.1,ExOk x
 ji:inI j.2.2.2.2.2
theorem new_of (j:Jb) (J:JT j) (e:Int) (hg:f17 j=some e) :
  f7 j=some (if e=0 then Sum.inr (j.1.1,j.1.2,j.2.1,j.2.2.1,j.2.2.2.1.1,j.2.2.2.1.2.1,j.2.2.2.1.2.2,j.2.2.2.2.1,j.2.2.2.2.2,j.2.2.2.2.2,List.replicate j.2.2.2.2.2.length 0) else Sum.inl e):=by
 have hp:=J.jp
 unfold f7
 have hg2:f17 ((j.1.1,j.1.2),j.2.1,j.2.2.1,(j.2.2.2.1.1,j.2.2.2.1.2.1,j.2.2.2.1.2.2),j.2.2.2.2.1,j.2.2.2.2.2)=some e:=hg
 rw [hg2,Aa]
 by_cases h:e=0
 ·have hc:f18 ((j.1.1,j.1.2),j.2.1,j.2.2.1,(j.2.2.2.1.1,j.2.2.2.1.2.1,j.2.2.2.1.2.2),j.2.2.2.2.1,j.2.2.2.2.2)=_:=copyW j ⟨J.jn.1,by have:=J.jn.2;omega⟩ J.jl (by omega) J.jx
  rw [nF h,cond_false,if_pos h,hc,Aa]
  unfold f19
  rw [cloneF _ (by omega),Aa,Ab,Aa,Int.toNat_natCast]
 ·rw [nT h,cond_true,if_neg h]
theorem newW (j:Jb) (J:JT j) (R:JR j):(∃ e,e≠0∧f17 j=some e)∨(f17 j=some 0∧∃ d,TOk j.1 d j.2.1 j.2.2.1 j.2.2.2.1 j.2.2.2.2.1 j.2.2.2.2.2 (List.replicate j.2.2.2.2.2.length 0) 0):=by
 rcases paramsW j.1 (by have:=J.jn.2;omega) with ⟨e,he,hp,_⟩ | ⟨d,N,hp,hs⟩
 ·exact .inl ⟨e,he,good_bad j e he hp⟩
 ·have C:Can j.1 d j.2.1 j.2.2.2.2.2:=⟨N,hs,R.ji⟩
  rcases goodW j C hp R.jd J.jl with ⟨h,hg⟩ | ⟨h,hg⟩
  ·by_cases h0:er j.1 j.2.1 j.2.2.2.2.2 j.2.2.2.2.1=0
   ·rw [h0] at hg
    obtain ⟨_,_,h1,_,h2,h3,h4,h5⟩:=h
    refine .inr ⟨hg,d,C,hp,R.jd,⟨by omega,J.jl⟩,⟨h2,h3⟩,⟨R.jr.1,R.jr.2.1,R.jr.2.2,h4⟩,by omega,by rw [List.length_replicate];omega,inI_rep _ _ (by decide),by omega⟩
   ·exact .inl ⟨_,h0,hg⟩
  ·exact .inl ⟨1,by decide,hg⟩
theorem stateW {P M:List Int} (hP:P.length≤4096) (hM:M.length≤4096) (a:List Int) (b:List Lay) (c e f g h:Int) (D:List Exm) (jP:List Int) (s hi lo:Int) :
  f9 a b c e f g h D jP P M s hi lo=some (P,M,a,b,c,e,f,g,h,D,jP,s,hi,lo,P,M):=by
 unfold f9
 rw [cloneF _ hP,Aa,cloneF _ hM];rfl
theorem alike_self (a:List Int) (h:a.length≤4096):f10 a a=some true:=by
 unfold f10
 rw [nF rfl,cond_false]
 have L:=Ba (B:=fun go x=>f10_l1 a a go x) (fun k=>(k:Int)) a.length (Sum.inr ()) ?_ ?_ (by omega)
 ·have L':Ag (fun go x=>f10_l1 a a go x) Ah (0:Int)=_:=L
  rw [L'];rfl
 ·intro k hk go
  unfold f10_l1
  rw [dT,cond_true,Ab,Ab,nF rfl,cond_false,Bp k]
 ·intro go
  unfold f10_l1
  rw [dF,cond_false]
theorem tame17 (j:Jb):∃ b,f6 j=some b∧(b=true→JT j):=by
 have ej:(f6_j1 j=some (Sum.inl ())∧j.1.1.length≤4∧j.1.2.length≤5∧j.2.2.2.2.1.length≤8∧j.2.2.2.2.2.length≤50)∨f6_j1 j=some (Sum.inr ()):=by
  unfold f6_j1
  by_cases h1:(List.length j.1.1:Int)>4
  ·rw [dT h1];exact .inr rfl
  rw [dF h1,cond_false]
  by_cases h2:(List.length j.1.2:Int)>5
  ·rw [dT h2];exact .inr rfl
  rw [dF h2,cond_false]
  by_cases h3:(List.length j.2.2.2.2.1:Int)>8
  ·rw [dT h3];exact .inr rfl
  rw [dF h3,cond_false]
  by_cases h4:(List.length j.2.2.2.2.2:Int)>50
  ·rw [dT h4];exact .inr rfl
  rw [dF h4]
  exact .inl ⟨rfl,by omega,by omega,by omega,by omega⟩
 unfold f6
 rcases ej with ⟨ej,h1,h2,h3,h4⟩ | ej
 ·rw [ej,Aa,Ai]
  have LL:=Bf (B:=fun go x=>f6_l2 j go x) (fun x=>∃ k:Nat,k≤j.2.2.2.2.1.length∧x=(k:Int)∧∀ i (h:i<j.2.2.2.2.1.length),i<k→(j.2.2.2.2.1[i]).1.length≤30∧(j.2.2.2.2.1[i]).2.1.length≤30) (fun x=>j.2.2.2.2.1.length-x.toNat)
   (fun z=>z=Sum.inr ()→∀ x ∈ j.2.2.2.2.1,x.1.length≤30∧x.2.1.length≤30) ?_ (0:Int) ⟨0,by omega,rfl,fun i _ h=>absurd h (by omega)⟩ (by show j.2.2.2.2.1.length-Int.toNat 0<18446744073709551616;omega)
  ·obtain ⟨z,ez,hz⟩:=LL
   rw [ez,Aa]
   cases z with
   | inl u=>exact ⟨_,rfl,fun h=>absurd h (by decide)⟩
   | inr u=>exact ⟨_,rfl,fun _=>⟨⟨h1,h2⟩,h3,h4,hz rfl⟩⟩
  ·rintro _ ⟨k,hk,rfl,hp⟩
   by_cases h:k<j.2.2.2.2.1.length
   ·have er1:rd zEx j.2.2.2.2.1 (k:Int)=j.2.2.2.2.1[k]:=Bi _ _ _ h
    have start:∀ go,f6_l2 j go (k:Int)=bif decide ((List.length (j.2.2.2.2.1[k]).1:Int)>30) then some (Sum.inl ()) else bif decide ((List.length (j.2.2.2.2.1[k]).2.1:Int)>30) then some (Sum.inl ()) else go ((k+1:Nat):Int):=fun go=>by
     have er2:rd (Ty.z (.p (.sl (.int .i64)) (.p (.sl (.int .i64)) (.int .i64)))) j.2.2.2.2.1 (k:Int)=j.2.2.2.2.1[k]:=er1
     unfold f6_l2
     rw [dT,cond_true,Ab,Ab,er2,Bp k]
    by_cases a1:(List.length (j.2.2.2.2.1[k]).1:Int)>30
    ·refine .inl ⟨Sum.inl (),fun go=>?_,fun h=>absurd h (by simp)⟩
     rw [start,dT a1,cond_true]
    ·by_cases a2:(List.length (j.2.2.2.2.1[k]).2.1:Int)>30
     ·refine .inl ⟨Sum.inl (),fun go=>?_,fun h=>absurd h (by simp)⟩
      rw [start,dF a1,cond_false,dT a2,cond_true]
     ·refine .inr ⟨((k+1:Nat):Int),fun go=>?_,⟨k+1,h,rfl,fun i hi hik=>?_⟩,by simp only [Int.toNat_natCast];omega⟩
      ·rw [start,dF a1,cond_false,dF a2,cond_false]
      ·by_cases e:i=k
       ·subst e;exact ⟨by omega,by omega⟩
       ·exact hp i hi (by omega)
   ·obtain rfl:k=j.2.2.2.2.1.length:=by omega
    refine .inl ⟨Sum.inr (),fun go=>?_,fun _ x hx=>?_⟩
    ·unfold f6_l2
     rw [dF,cond_false]
    ·obtain ⟨i,hi,rfl⟩:=List.getElem_of_mem hx
     exact hp i hi hi
 ·rw [ej,Aa,As];exact ⟨_,rfl,fun h=>absurd h (by decide)⟩
theorem awake17:f5=some true:=by kernel_rfl
theorem tok_rev {n:Nt} {d:List (List Int)} {kind:Int} {r:Int×Int×Int} {D:List Exm} {P M:List Int} {st:Int} (T:TOk n d kind D.length r D P M st):TOk n d kind D.length r D.reverse P M st:=
 ⟨T.tC,T.tPr,fun x hx=>T.tD x (List.mem_reverse.1 hx),by rw [List.length_reverse];exact T.tD8,by rw [List.length_reverse];exact T.tB,T.tR,T.tP,T.tMl,T.tMi,T.tst⟩
theorem tok_len2 {n:Nt} {d:List (List Int)} {kind b:Int} {r:Int×Int×Int} {D:List Exm} {P M:List Int} {st:Int} (T:TOk n d kind b r D P M st):P.length≤4096∧M.length≤4096:=by
 have h1:=T.tP
 have h2:=T.tMl
 have h3:=T.tC.cN.tM
 omega
theorem step_rev {n:Nt} {d:List (List Int)} {kind:Int} {r:Int×Int×Int} {D:List Exm} {P M:List Int} {st:Int} (T:TOk n d kind D.length r D P M st) (hst:st≤9999) (jP:List Int) (hi lo:Int) :
  (∃ e1 e2 x1 x2,e1≠0∧e2≠0∧f8 n.1 n.2 kind D.length r.1 r.2.1 r.2.2 D jP P M st hi lo=some (e1,x1)∧f8 n.1 n.2 kind D.length r.1 r.2.1 r.2.2 D.reverse jP P M st hi lo=some (e2,x2))∨
  ∃ P' M' hi' lo',f8 n.1 n.2 kind D.length r.1 r.2.1 r.2.2 D jP P M st hi lo=some (0,n.1,n.2,kind,(D.length:Int),r.1,r.2.1,r.2.2,D,jP,st+1,hi',lo',P',M')∧
   f8 n.1 n.2 kind D.length r.1 r.2.1 r.2.2 D.reverse jP P M st hi lo=some (0,n.1,n.2,kind,(D.length:Int),r.1,r.2.1,r.2.2,D.reverse,jP,st+1,hi',lo',P',M')∧TOk n d kind D.length r D P' M' (st+1):=by
 have T2:=tok_rev T
 obtain ⟨d1,d8⟩:=T.tD8
 have x1:exs D (D.length:Int) st=D:=exs_all D st d1
 have x2:exs D.reverse (D.length:Int) st=D.reverse:=by
  have:=exs_all D.reverse st (by rw [List.length_reverse];exact d1)
  rw [List.length_reverse] at this
  exact this
 have S1:=stepW T hst jP hi lo
 have S2:=stepW T2 hst jP hi lo
 rw [x1] at S1
 rw [x2] at S2
 have hr:=er_rev n kind P D
 rcases S1 with ⟨h1,q1⟩ | ⟨h1,P1,M1,a1,q1,T1⟩
 ·rcases S2 with ⟨h2,q2⟩ | ⟨h2,_⟩
  ·exact .inl ⟨_,_,_,_,h1,h2,q1,q2⟩
  ·exact absurd (hr.1 h2) h1
 ·rcases S2 with ⟨h2,_⟩ | ⟨h2,P2,M2,a2,q2,_⟩
  ·exact absurd (hr.2 h1) h2
  ·have eT:tabG n d kind P D.reverse=tabG n d kind P D:=Au _ _ _ (fun j _=>by rw [gS_rev])
   rw [eT,a1] at a2
   injection a2 with a2
   injection a2 with _ a2
   injection a2 with a2 a3
   subst a2 a3
   rw [lS_rev] at q2
   exact .inr ⟨P1,M1,_,_,q1,q2,T1⟩
def at17 (n:Nt) (kind b:Int) (r:Int×Int×Int) (D:List Exm) (jP P M:List Int) (st hi lo:Int):=(n.1,n.2,kind,b,r.1,r.2.1,r.2.2,D,jP,st,hi,lo,P,M)
abbrev L17 (k:Int):=fun (go:(Int×(List Int)×(List (ByteArray×Int×Int))×Int×Int×Int×Int×Int×(List ((List Int)×(List Int)×Int))×(List Int)×Int×Int×Int×(List Int)×(List Int))→Option (Sum Int ((List Int)×(List (ByteArray×Int×Int))×Int×Int×Int×Int×Int×(List ((List Int)×(List Int)×Int))×(List Int)×Int×Int×Int×(List Int)×(List Int)))) (x:Int×(List Int)×(List (ByteArray×Int×Int))×Int×Int×Int×Int×Int×(List ((List Int)×(List Int)×Int))×(List Int)×Int×Int×Int×(List Int)×(List Int))=>
 f11_l8 k go x.1 x.2.1 x.2.2.1 x.2.2.2.1 x.2.2.2.2.1 x.2.2.2.2.2.1 x.2.2.2.2.2.2.1 x.2.2.2.2.2.2.2.1 x.2.2.2.2.2.2.2.2.1 x.2.2.2.2.2.2.2.2.2.1 x.2.2.2.2.2.2.2.2.2.2.1 x.2.2.2.2.2.2.2.2.2.2.2.1 x.2.2.2.2.2.2.2.2.2.2.2.2.1 x.2.2.2.2.2.2.2.2.2.2.2.2.2.1 x.2.2.2.2.2.2.2.2.2.2.2.2.2.2
theorem at_loop {n:Nt} {d:List (List Int)} {kind:Int} {r:Int×Int×Int} {D:List Exm} (jP:List Int) (k:Nat) (hk:k≤4):∀ (q m i:Nat) (P M:List Int) (st hi lo:Int),i+q=k→q<m→TOk n d kind D.length r D P M st→st≤i→
  (∃ e1 e2,e1≠0∧e2≠0∧Ag (L17 k) m ((i:Int),at17 n kind D.length r D jP P M st hi lo)=some (Sum.inl e1)∧Ag (L17 k) m ((i:Int),at17 n kind D.length r D.reverse jP P M st hi lo)=some (Sum.inl e2))∨
  ∃ P' M' st' hi' lo',Ag (L17 k) m ((i:Int),at17 n kind D.length r D jP P M st hi lo)=some (Sum.inr (at17 n kind D.length r D jP P' M' st' hi' lo'))∧Ag (L17 k) m ((i:Int),at17 n kind D.length r D.reverse jP P M st hi lo)=some (Sum.inr (at17 n kind D.length r D.reverse jP P' M' st' hi' lo'))∧P'.length≤4096∧M'.length≤4096
 | 0,0,i,P,M,st,hi,lo,h1,h2,T,_=>absurd h2 (by omega)
 | 0,m+1,i,P,M,st,hi,lo,h1,h2,T,_=>by
  obtain ⟨l1,l2⟩:=tok_len2 T
  refine .inr ⟨P,M,st,hi,lo,?_,?_,l1,l2⟩
  ·rw [Bj]
   unfold L17 f11_l8
   simp only
   rw [dF,cond_false]
  ·rw [Bj]
   unfold L17 f11_l8
   simp only
   rw [dF,cond_false]
 | q+1,0,i,P,M,st,hi,lo,h1,h2,T,_=>absurd h2 (by omega)
 | q+1,m+1,i,P,M,st,hi,lo,h1,h2,T,hs=>by
  rw [Bj,Bj]
  rcases step_rev T (by omega) jP hi lo with ⟨e1,e2,x1,x2,n1,n2,q1,q2⟩ | ⟨P',M',hi',lo',q1,q2,T'⟩
  ·refine .inl ⟨e1,e2,n1,n2,?_,?_⟩
   ·show f11_l8 k _ (i:Int) n.1 n.2 kind D.length r.1 r.2.1 r.2.2 D jP st hi lo P M=_
    unfold f11_l8
    rw [dT,cond_true,q1,Aa,nT n1,cond_true]
   ·show f11_l8 k _ (i:Int) n.1 n.2 kind D.length r.1 r.2.1 r.2.2 D.reverse jP st hi lo P M=_
    unfold f11_l8
    rw [dT,cond_true,q2,Aa,nT n2,cond_true]
  ·have IH:=at_loop jP k hk q m (i+1) P' M' (st+1) hi' lo' (by omega) (by omega) T' (by omega)
   have s1:L17 k (Ag (L17 k) m) ((i:Int),at17 n kind D.length r D jP P M st hi lo)=Ag (L17 k) m (((i+1:Nat):Int),at17 n kind D.length r D jP P' M' (st+1) hi' lo'):=by
    show f11_l8 k _ (i:Int) n.1 n.2 kind D.length r.1 r.2.1 r.2.2 D jP st hi lo P M=_
    unfold f11_l8
    rw [dT,cond_true,q1,Aa,nF rfl,cond_false,Bp i]
    rfl
   have s2:L17 k (Ag (L17 k) m) ((i:Int),at17 n kind D.length r D.reverse jP P M st hi lo)=Ag (L17 k) m (((i+1:Nat):Int),at17 n kind D.length r D.reverse jP P' M' (st+1) hi' lo'):=by
    show f11_l8 k _ (i:Int) n.1 n.2 kind D.length r.1 r.2.1 r.2.2 D.reverse jP st hi lo P M=_
    unfold f11_l8
    rw [dT,cond_true,q2,Aa,nF rfl,cond_false,Bp i]
    rfl
   rw [s1,s2]
   exact IH
theorem turns17_l (j:Jb) (hl:j.2.2.2.2.1.length≤8):Ag (fun go (x:Int×List Exm)=>f4_l2 j go x.1 x.2) Ah (IntKind.i64.wrap ((List.length j.2.2.2.2.1:Int)-(1:Int)),[])=some j.2.2.2.2.1.reverse:=by
 have L:=Ba (B:=fun go (x:Int×List Exm)=>f4_l2 j go x.1 x.2) (fun k=>((j.2.2.2.2.1.length:Int)-1-(k:Int),j.2.2.2.2.1.reverse.take k)) j.2.2.2.2.1.length j.2.2.2.2.1.reverse ?_ ?_ (by omega)
 ·have e:((j.2.2.2.2.1.length:Int)-1-((0:Nat):Int),j.2.2.2.2.1.reverse.take 0)=(IntKind.i64.wrap ((List.length j.2.2.2.2.1:Int)-(1:Int)),[]):=by
   rw [Ae];simp
  rw [← e]
  exact L
 ·intro k hk go
  have ei:(j.2.2.2.2.1.length:Int)-1-(k:Int)=((j.2.2.2.2.1.length-1-k:Nat):Int):=by omega
  have hr:k<j.2.2.2.2.1.reverse.length:=by rw [List.length_reverse];exact hk
  have ex:rd zEx j.2.2.2.2.1 ((j.2.2.2.2.1.length-1-k:Nat):Int)=j.2.2.2.2.1.reverse[k]:=by rw [Bi _ _ _ (by omega),List.getElem_reverse]
  have g3:(List.length (j.2.2.2.2.1.reverse.take k)+List.length [rd zEx j.2.2.2.2.1 ((j.2.2.2.2.1.length-1-k:Nat):Int)])*56≤140737488355328:=by simp only [List.length_cons,List.length_nil,List.length_take];omega
  have wn:IntKind.i64.wrap (((j.2.2.2.2.1.length-1-k:Nat):Int)-1)=(j.2.2.2.2.1.length:Int)-1-((k+1:Nat):Int):=by rw [Ae];omega
  unfold f4_l2
  simp only
  rw [ei,dT,cond_true,Ab,Ab g3,wn,List.take_succ_eq_append_getElem hr,← ex]
 ·intro go
  unfold f4_l2
  simp only
  rw [dF,cond_false,List.take_of_length_le (by rw [List.length_reverse];exact Nat.le_refl _)]
theorem turns17_j (j:Jb) (k:Int):(f4_j1 j k=some (Sum.inl ())∧JT j∧0≤k∧k≤4)∨f4_j1 j k=some (Sum.inr ()):=by
 unfold f4_j1
 obtain ⟨b,eb,hb⟩:=tame17 j
 have eb2:f6 ((j.1.1,j.1.2),j.2.1,j.2.2.1,(j.2.2.2.1.1,j.2.2.2.1.2.1,j.2.2.2.1.2.2),j.2.2.2.2.1,j.2.2.2.2.2)=some b:=eb
 rw [eb2,Aa]
 cases b
 ·exact .inr rfl
 ·rw [Bool.not_true,cond_false]
  by_cases h1:k<0
  ·rw [dT h1];exact .inr rfl
  ·rw [dF h1,cond_false]
   by_cases h2:k>4
   ·rw [dT h2];exact .inr rfl
   ·rw [dF h2];exact .inl ⟨rfl,hb rfl,by omega,by omega⟩
theorem at_err (j:Jb) (J:JT j) (e k:Int) (he:e≠0) (hg:f17 j=some e):f11 j k=some (e,[],[]):=by
 have hn:=new_of j J e hg
 rw [if_neg he] at hn
 have hn2:f7 ((j.1.1,j.1.2),j.2.1,j.2.2.1,(j.2.2.2.1.1,j.2.2.2.1.2.1,j.2.2.2.1.2.2),j.2.2.2.2.1,j.2.2.2.2.2)=some (Sum.inl e):=hn
 unfold f11
 rw [hn2,Aa,Ai]
 unfold f11_j2
 rw [nT he,cond_true,Aa,As]
theorem at_run (j:Jb) (J:JT j) (k:Nat) (hk:k≤4) (hg:f17 j=some 0):f11 j (k:Int) =
  Ac (Ag (L17 k) Ah ((0:Int),at17 j.1 j.2.1 j.2.2.1 j.2.2.2.1 j.2.2.2.2.1 j.2.2.2.2.2 j.2.2.2.2.2 (List.replicate j.2.2.2.2.2.length 0) 0 0 0)) fun z11=>
   Ak z11 (fun z11a=>
    some (z11a,[],[])) (fun z11b=>
    Ac (f9 z11b.1 z11b.2.1 z11b.2.2.1 z11b.2.2.2.1 z11b.2.2.2.2.1 z11b.2.2.2.2.2.1 z11b.2.2.2.2.2.2.1 z11b.2.2.2.2.2.2.2.1 z11b.2.2.2.2.2.2.2.2.1 z11b.2.2.2.2.2.2.2.2.2.2.2.2.1 z11b.2.2.2.2.2.2.2.2.2.2.2.2.2 z11b.2.2.2.2.2.2.2.2.2.1 z11b.2.2.2.2.2.2.2.2.2.2.1 z11b.2.2.2.2.2.2.2.2.2.2.2.1) fun r13=>
    some ((0:Int),r13.1,r13.2.1)):=by
 have hn:=new_of j J 0 hg
 rw [if_pos rfl] at hn
 have hn2:f7 ((j.1.1,j.1.2),j.2.1,j.2.2.1,(j.2.2.2.1.1,j.2.2.2.1.2.1,j.2.2.2.1.2.2),j.2.2.2.2.1,j.2.2.2.2.2)=_:=hn
 unfold f11
 rw [hn2,Aa,As]
 have h6:f11_j6 (k:Int)=some (Sum.inl ()):=by
  unfold f11_j6 f11_j7
  rw [nF rfl,cond_false,dF,cond_false,dF];rfl
 rw [h6,Aa,Ai]
 rfl
theorem lawSTurns (j0:Jb) (k:Int) (R:JR j0):f4 j0 k=some true:=by
 unfold f4
 rw [awake17,Aa,Bool.not_true,cond_false]
 rcases turns17_j j0 k with ⟨ej,J,k0,k1⟩ | ej
 ·obtain ⟨k',rfl⟩:=Int.eq_ofNat_of_zero_le k0
  rw [ej,Aa,Ai,turns17_l j0 J.jl,Aa]
  obtain ⟨⟨In,Ls⟩,kind,b0,r,D,P⟩:=j0
  simp only
  have e1:∃ j1:Jb,j1=((In,Ls),kind,(D.length:Int),r,D,P):=⟨_,rfl⟩
  have e2:∃ j2:Jb,j2=((In,Ls),kind,(D.length:Int),r,D.reverse,P):=⟨_,rfl⟩
  obtain ⟨j1,e1⟩:=e1
  obtain ⟨j2,e2⟩:=e2
  rw [show (((In,Ls),kind,(D.length:Int),(r.1,r.2.1,r.2.2),D,P):Jb)=j1 from e1.symm,show (((In,Ls),kind,(D.length:Int),(r.1,r.2.1,r.2.2),D.reverse,P):Jb)=j2 from e2.symm]
  have J1:JT j1:=by rw [e1];exact ⟨J.jn,J.jl,J.jp,J.jx⟩
  have J2:JT j2:=by rw [e2];exact ⟨J.jn,by rw [List.length_reverse];exact J.jl,J.jp,fun x hx=>J.jx x (List.mem_reverse.1 hx)⟩
  have R1:JR j1:=by rw [e1];exact ⟨R.jr,R.jd,R.ji⟩
  have R2:JR j2:=by rw [e2];exact ⟨R.jr,fun x hx=>R.jd x (List.mem_reverse.1 hx),R.ji⟩
  have nil2:f10 [] []=some true:=alike_self [] (by simp)
  have both:(∃ a b,a≠0∧b≠0∧f17 j1=some a∧f17 j2=some b)∨(f17 j1=some 0∧f17 j2=some 0):=by
   rcases paramsW (In,Ls) (by have:=J.jn.2;simp only at this ⊢;omega) with ⟨e,he,hp,_⟩ | ⟨d,N,hp,hs⟩
   ·exact .inl ⟨e,e,he,he,good_bad j1 e he (by rw [e1];exact hp),good_bad j2 e he (by rw [e2];exact hp)⟩
   ·have C:Can (In,Ls) d kind P:=⟨N,hs,R.ji⟩
    have g1:=goodW ((In,Ls),kind,(D.length:Int),r,D,P) (d:=d) C hp R.jd J.jl
    have g2:=goodW ((In,Ls),kind,(D.length:Int),r,D.reverse,P) (d:=d) C hp (fun x hx=>R.jd x (List.mem_reverse.1 hx)) (by simp only [List.length_reverse];exact J.jl)
    rw [← e1] at g1
    rw [← e2] at g2
    have hjc:jc j1 (tsm j1.1 d j1.1.2.length)↔jc j2 (tsm j2.1 d j2.1.2.length):=by
     rw [e1,e2];unfold jc;simp only [List.length_reverse]
    rcases g1 with ⟨c1,g1⟩ | ⟨c1,g1⟩
    ·rcases g2 with ⟨c2,g2⟩ | ⟨c2,g2⟩
     ·rw [e1] at g1
      rw [e2] at g2
      simp only at g1 g2
      rw [← e1] at g1
      rw [← e2] at g2
      by_cases h0:er (In,Ls) kind P D=0
      ·have h0':=(er_rev (In,Ls) kind P D).2 h0
       rw [h0] at g1
       rw [h0'] at g2
       exact .inr ⟨g1,g2⟩
      ·exact .inl ⟨_,_,h0,fun h=>h0 ((er_rev (In,Ls) kind P D).1 h),g1,g2⟩
     ·exact absurd (hjc.1 c1) c2
    ·rcases g2 with ⟨c2,g2⟩ | ⟨c2,g2⟩
     ·exact absurd (hjc.2 c2) c1
     ·exact .inl ⟨1,1,by decide,by decide,g1,g2⟩
  rcases both with ⟨a,b,ha,hb,ga,gb⟩ | ⟨g1,g2⟩
  ·rw [at_err j1 J1 a k' ha ga,at_err j2 J2 b k' hb gb,Aa,Aa,bF ha,bF hb]
   simp only [BEq.rfl,cond_true]
   rw [nil2,Aa,cond_true,Aa]
  ·rcases newW j1 J1 R1 with ⟨e,he,hg⟩ | ⟨_,d,T⟩
   ·rw [g1] at hg;injection hg with hg;exact absurd hg.symm he
   ·rw [e1] at T
    have AL:=at_loop (n:=(In,Ls)) (d:=d) (kind:=kind) (r:=r) (D:=D) P k' (by omega) k' Ah 0 P (List.replicate P.length 0) 0 0 0 (by omega) (by show k' < 18446744073709551616;omega) T (by omega)
    rw [at_run j1 J1 k' (by omega) g1,at_run j2 J2 k' (by omega) g2,e1,e2]
    simp only
    rcases AL with ⟨a,b,ha,hb,q1,q2⟩ | ⟨P',M',st',hi',lo',q1,q2,l1,l2⟩
    ·have q1':Ag (L17 k') Ah ((0:Int),at17 (In,Ls) kind (D.length:Int) r D P P (List.replicate P.length 0) 0 0 0)=_:=q1
     have q2':Ag (L17 k') Ah ((0:Int),at17 (In,Ls) kind (D.length:Int) r D.reverse P P (List.replicate P.length 0) 0 0 0)=_:=q2
     rw [q1',q2',Aa,Ai,Aa,Aa,Ai,Aa,bF ha,bF hb]
     simp only [BEq.rfl,cond_true]
     rw [nil2,Aa,cond_true,Aa]
    ·have q1':Ag (L17 k') Ah ((0:Int),at17 (In,Ls) kind (D.length:Int) r D P P (List.replicate P.length 0) 0 0 0)=_:=q1
     have q2':Ag (L17 k') Ah ((0:Int),at17 (In,Ls) kind (D.length:Int) r D.reverse P P (List.replicate P.length 0) 0 0 0)=_:=q2
     rw [q1',q2',Aa,As,Aa,As]
     unfold at17
     simp only
     rw [stateW l1 l2,Aa,stateW l1 l2,Aa,Aa,Aa]
     simp only [BEq.rfl,cond_true]
     rw [alike_self _ l1,Aa,cond_true,alike_self _ l2,Aa]
 ·rw [ej,Aa,As]
end Go.Proofs.Cv
namespace Go.Proofs.PlG
open Go.AM Go.Proofs.PlW
theorem range_i64 {x:Int} (h:Ty.wf (.int .i64) x) : -9223372036854775808≤x∧x<9223372036854775808:=by
 have h:(Lit.int .i64 x).wf=true:=h
 simp only [Lit.wf,IntKind.min,IntKind.max,IntKind.signed,IntKind.bits,Bool.and_eq_true,decide_eq_true_eq,if_true] at h
 omega
theorem row_i64 {l:List Int} (h:Ty.wf (.sl (.int .i64)) l):inI l:=fun x hx=>range_i64 (h.2 x hx)
end Go.Proofs.PlG

