import Derived.Test.YtdnlicefpmiljaaGreatDoorModelRunsQ1
import Derived.Test.YtdnlicefpmiljaaGreatDoorModelRunsS7
import Derived.Test.YtdnlicefpmiljaaGreatDoorModelRunsQ0
import Derived.Test.YtdnlicefpmiljaaGreatDoorAmY
set_option linter.unusedVariables false
set_option linter.unusedSimpArgs false
set_option linter.unusedSectionVars false
set_option maxRecDepth 100000
set_option maxRecDepth 1000000

namespace Go.Proofs.Cv
open Go.AM Go.Proofs.PlB Go.Proofs.PlW Go.Proofs.PlT Go.Proofs.PlS Go.Proofs.Sh Go.Proofs.Num Go.Proofs.Div Go.Proofs.Op
open Go.Proofs.PlR hiding Tn
section
variable {n:Nt} {d:List (List Int)} {p:List Int} (R:RN n d p) {k:Nat} (hk:k<n.2.length) {T:List Nd} {last frm:Nat} {L:List Int} (V:RV n d k T last frm L)
include R hk V
theorem dense_in {T2:List Nd} (h2:T2.length≤T.length+2) (G2:GL T2) (hl:last<T2.length) (hd:(nd T2 last).1=dm d k) (P L2:List Int) (i1 i2:Int) :
  ∃ (X:Nat) (T3:List Nd),f44_j1 (dm d k) (last:Int) (i1,i2,0,P,L2,T2)=some ((X:Int),0,P,L2,T3)∧
   f22_j67 (last:Int) T (0,i2,T2)=some (0,(X:Int),T3)∧GL T3∧T3.length≤T2.length+1∧X<T3.length∧(nd T3 X).1=[Fp (dm d k)]∧(∀ i,i<T2.length→i<T3.length∧nd T3 i=nd T2 i):=by
 have hr:=RV.room R hk V
 have D:=R.W.wD k (by omega)
 have D1:=R.len1 k (by omega)
 have eT:(rd (Ty.z (.p (.int .i64) (.p (.int .i64) (.p (.int .i64) (.p (.int .i64) (.p (.sl (.int .i64)) (.sl (.int .i64)))))))) T (last:Int)).2.2.2.2.1=dm d k:=V.vd
 unfold f44_j1 f22_j67 f22_j68
 rw [eT]
 by_cases e:(dm d k).length=2
 ·obtain ⟨m,e1,e2,e3,e4⟩:=push_shape (by omega) G2 hl
  refine ⟨T2.length,T2++[m],?_,?_,e4,by simp,by simp,by rw [J6,e3,hd],fun i hi=>⟨by simp;omega,Kd _ _ _ hi⟩⟩
  ·rw [bT (by omega),cond_true,doM e1,Bh]
  ·simp only
   rw [bT rfl,cond_true,Bh,bT (by omega),cond_true,e2,Bh]
 ·refine ⟨last,T2,?_,?_,G2,by omega,hl,?_,fun i hi=>⟨hi,rfl⟩⟩
  ·rw [bF (by omega),cond_false]
  ·simp only
   rw [bT rfl,cond_true,Bh,bF (by omega),cond_false]
  ·rw [hd]
   have hl2:=D.1
   match h:dm d k,D1,e,hl2 with
   | [x],_,_,_=>simp only [Fp,Int.mul_one]
   | [x,y],_,e,_=>exact absurd rfl e
theorem lay_dense (h1:kd F6 (ly n k)=true):Lays n d p k T last frm L:=by
 have hr:=RV.room R hk V
 have hs:=V.vs
 have hN:=R.nN
 have qf:=R.few
 obtain ⟨p1,p2⟩:=lokD ((Jq R.ng).2 k hk) h1
 have hn:=R.nxt k hk
 unfold nx at hn
 rw [h1,cond_true] at hn
 injection hn with hn
 have D:=R.W.wD k (by omega)
 obtain ⟨b0,b1⟩:=dd_prod D
 obtain ⟨s1,s2⟩:=R.small k hk
 have epc:pc (ly n k) (dm d k)=(ly n k).2.1*Fp (dm d k):=by unfold pc;rw [h1];rfl
 have ept:mny n d (k+1)=mny n d k+((ly n k).2.1*Fp (dm d k)+(ly n k).2.1):=by simp only [mny];unfold pt;rw [h1];rfl
 obtain ⟨m1,m2⟩:=Km p1 p2 b0 b1
 have q0:=R.pos k (by omega)
 have q1:=R.mono (k+1) hk
 rw [epc] at s1
 have hp:∀ x ∈ [(ly n k).2.1,Fp (dm d k)],1≤x:=fun x hx=>by
  simp only [List.mem_cons,List.mem_nil_iff,or_false] at hx
  rcases hx with rfl | rfl <;> omega
 have hp1:∀ x ∈ [(ly n k).2.1],1≤x:=fun x hx=>by rw [List.mem_singleton.1 hx];omega
 have eP:Fp [(ly n k).2.1,Fp (dm d k)]=(ly n k).2.1*Fp (dm d k):=by simp only [Fp,Int.mul_one]
 have eP1:Fp [(ly n k).2.1]=(ly n k).2.1:=by simp only [Fp,Int.mul_one]
 have epr:=prd_of hp (by simp) (by rw [eP];exact s1)
 have epr1:=prd_of hp1 (by simp) (by rw [eP1];omega)
 rw [eP] at epr
 rw [eP1] at epr1
 have hlen:((p.drop (mny n d k).toNat).length:Int)=p.length-mny n d k:=by rw [List.length_drop];omega
 have hlen1:(((p.drop (mny n d k).toNat).drop ((ly n k).2.1*Fp (dm d k)).toNat).length:Int)=p.length-mny n d k-(ly n k).2.1*Fp (dm d k):=by rw [List.length_drop];omega
 have gx:GoodT (([(ly n k).2.1,Fp (dm d k)],(p.drop (mny n d k).toNat).take ((ly n k).2.1*Fp (dm d k)).toNat):Tn):=
  ⟨tgood_of (by simp only;omega) (by simp only;rw [epr,List.length_take];omega),inI_take (inI_drop R.ni _) _⟩
 have gy:GoodT (([(ly n k).2.1],((p.drop (mny n d k).toNat).drop ((ly n k).2.1*Fp (dm d k)).toNat).take ((ly n k).2.1).toNat):Tn):=
  ⟨tgood_of (by simp only;omega) (by simp only;rw [epr1,List.length_take];omega),inI_take (inI_drop (inI_drop R.ni _) _) _⟩
 obtain ⟨w,a1,a2,a3,a4⟩:=push_leaf T _ (by omega) V.vG gx
 have l1:(T++[w]).length=T.length+1:=by simp
 obtain ⟨v,c1,c2,c3,c4⟩:=push_leaf (T++[w]) _ (by omega) a4 gy
 rw [l1] at c1 c2
 have l2:(T++[w]++[v]).length=T.length+2:=by simp
 have hl2:last<(T++[w]++[v]).length:=by have:=V.vl;omega
 have hd2:(nd (T++[w]++[v]) last).1=dm d k:=by rw [Kd _ _ _ (by have:=V.vl;omega),Kd _ _ _ V.vl];exact V.vd
 obtain ⟨X,T3,x1,x2,x3,x4,x5,x6,x7⟩:=dense_in R hk V (T2:=T++[w]++[v]) (by omega) c4 hl2 hd2 (p.drop (mny n d (k+1)).toNat) (L++[(T.length:Int)]++[((T.length+1:Nat):Int)]) (T.length:Int) ((T.length+1:Nat):Int)
 obtain ⟨y1,y2⟩:=x7 T.length (by omega)
 obtain ⟨z1,z2⟩:=x7 (T.length+1) (by omega)
 have ew:(nd T3 T.length).1=[(ly n k).2.1,Fp (dm d k)]:=by rw [y2,Kd _ _ _ (by omega),J6];exact a3
 have ev:(nd T3 (T.length+1)).1=[(ly n k).2.1]:=by have:=J6 (T++[w]) v;rw [l1] at this;rw [z2,this];exact c3
 obtain ⟨u4,f1,f2,f3,f4⟩:=push_mul (l:=T3) (by omega) x3 (A:=T.length) (B:=X) y1 x5 (ly n k).2.1 (Fp (dm d k)) ew x6
 have l4:(T3++[u4]).length=T3.length+1:=by simp
 obtain ⟨u5,g1,g2,g3,g4⟩:=push_sum (l:=T3++[u4]) (by omega) f4 (A:=T3.length) (by omega) (ly n k).2.1 (Fp (dm d k)) (by rw [J6];exact f3)
 rw [l4] at g1 g2
 have l5:(T3++[u4]++[u5]).length=T3.length+2:=by simp
 have e5:(nd (T3++[u4]++[u5]) (T3.length+1)).1=[(ly n k).2.1]:=by have:=J6 (T3++[u4]) u5;rw [l4] at this;rw [this];exact g3
 have e6:(nd (T3++[u4]++[u5]) (T.length+1)).1=[(ly n k).2.1]:=by rw [Kd _ _ _ (by omega),Kd _ _ _ z1];exact ev
 obtain ⟨u6,i1,i2,i3,i4⟩:=push_add (l:=T3++[u4]++[u5]) (by omega) g4 (A:=T3.length+1) (B:=T.length+1) (by omega) (by omega) (by rw [e5,e6])
 rw [l5] at i1 i2
 have l6:(T3++[u4]++[u5]++[u6]).length=T3.length+3:=by simp
 have hV:=V.vT
 obtain ⟨t1,t2⟩:=x7 last hl2
 refine ⟨T3.length+2,T3++[u4]++[u5]++[u6],L++[(T.length:Int)]++[((T.length+1:Nat):Int)],?_,?_,⟨i4,by omega,by omega,?_,by omega,fun _=>?_,by simp;omega⟩⟩
 ·have epar:f64 ((ly n k).1,(ly n k).2.1,(ly n k).2.2) (dm d k)=some [[(ly n k).2.1,Fp (dm d k)],[(ly n k).2.1]]:=by
   unfold f64
   show (bif kd F6 (ly n k) then _ else _)=_
   rw [h1,cond_true,mprod (Ke D) (by omega) (by have:=D.1;omega),Bh]
  have e:=par2 (T:=T) (T1:=T++[w]) (T2:=T++[w]++[v]) (P:=p.drop (mny n d k).toNat) (L:=L) (e:=[(ly n k).2.1,Fp (dm d k)]) (e':=[(ly n k).2.1]) (i:=(T.length:Int)) (i':=((T.length+1:Nat):Int)) hp (by rw [eP];exact s1) (by simp) hp1 (by rw [eP1];omega) (by simp) (by rw [eP,eP1];omega) (by omega) (by rw [eP];exact a1) (by rw [eP,eP1];exact c1)
  rw [eP,eP1] at e
  have edrop:((p.drop (mny n d k).toNat).drop ((ly n k).2.1*Fp (dm d k)).toNat).drop ((ly n k).2.1).toNat=p.drop (mny n d (k+1)).toNat:=by
   rw [List.drop_drop,List.drop_drop,ept];congr 1;omega
  rw [edrop] at e
  unfold f44
  rw [epar,Bh,e,Bh]
  show (bif kd F6 (ly n k) then _ else _)=_
  rw [h1,cond_true,x1,Bh]
  simp only
  rw [doM f1,Bh]
  simp only
  rw [doM g1,Bh]
  simp only
  have i1':f93 (T3++[u4]++[u5]) 2 ((T3.length+1:Nat):Int) ((T.length+1:Nat):Int) 0=some (((T3.length+2:Nat):Int),0,T3++[u4]++[u5]++[u6]):=i1
  rw [doM i1',Bh]
 ·have eT:(rd (Ty.z (.p (.int .i64) (.p (.int .i64) (.p (.int .i64) (.p (.int .i64) (.p (.sl (.int .i64)) (.sl (.int .i64)))))))) T (last:Int)).2.2.2.2.1=dm d k:=V.vd
  have sl:=sl_eq p (mny n d k) ((ly n k).2.1*Fp (dm d k)) q0 (by omega)
  have sl2:=sl_eq p (mny n d k+(ly n k).2.1*Fp (dm d k)) (ly n k).2.1 (by omega) (by omega)
  have ed:List.drop (Int.toNat (mny n d k+(ly n k).2.1*Fp (dm d k))) p=(p.drop (mny n d k).toNat).drop ((ly n k).2.1*Fp (dm d k)).toNat:=by rw [List.drop_drop];congr 1;omega
  rw [ed] at sl2
  have g3:(L.length+List.length [(T.length:Int),((T.length+1:Nat):Int)])*8≤140737488355328:=by simp only [List.length_cons,List.length_nil];omega
  have w1:IntKind.i64.wrap ((ly n k).2.1*Fp (dm d k))=(ly n k).2.1*Fp (dm d k):=Fl (by omega) (by omega)
  have w2:IntKind.i64.wrap (mny n d k+(ly n k).2.1*Fp (dm d k))=mny n d k+(ly n k).2.1*Fp (dm d k):=Fl (by omega) (by omega)
  have w3:IntKind.i64.wrap (mny n d k+(ly n k).2.1*Fp (dm d k)+(ly n k).2.1)=mny n d k+(ly n k).2.1*Fp (dm d k)+(ly n k).2.1:=Fl (by omega) (by omega)
  have hly:rd (Ty.z (.p .str (.p (.int .i64) (.int .i64)))) n.2 (k:Int)=ly n k:=rfl
  have j65:f22_j65 n p (mny n d k) (k:Int) (Fp (dm d k)) ((T.length:Int),(0:Int),T++[w])=some (0,((T.length+1:Nat):Int),T++[w]++[v]):=by
   unfold f22_j65
   simp only
   rw [hly,w1,w2,w3,bT rfl,cond_true,D4,sl2,c2,Bh]
  have j69:f22_j69 ((T.length:Int),(0:Int),T++[w]) (0,(X:Int),T3)=some (0,(T3.length:Int),T3++[u4]):=by
   unfold f22_j69
   simp only
   rw [bT rfl,cond_true,f2,Bh]
  have j70:f22_j70 (0,(T3.length:Int),T3++[u4])=some (0,((T3.length+1:Nat):Int),T3++[u4]++[u5]):=by
   unfold f22_j70
   simp only
   rw [bT rfl,cond_true,g2,Bh]
  have j71:f22_j71 (0,((T.length+1:Nat):Int),T++[w]++[v]) (0,((T3.length+1:Nat):Int),T3++[u4]++[u5])=some (0,((T3.length+2:Nat):Int),T3++[u4]++[u5]++[u6]):=by
   unfold f22_j71
   simp only
   rw [bT rfl,cond_true,i2,Bh]
  unfold f22_j64
  rw [eT,hly]
  show (bif kd F6 (ly n k) then _ else _)=_
  rw [h1,cond_true,rpro (Ke D) (by omega) (by have:=D.1;omega),Bh,w1,w2,w3,D4,sl,a2,Bh,j65,Bh,x2,Bh,j69,Bh,j70,Bh,j71,Bh]
  simp only
  rw [D4 g3,ept,Int.add_assoc]
  simp
 ·have:=J6 (T3++[u4]++[u5]) u6
  rw [l5] at this
  rw [this,i3,e5];exact hn
 ·rw [Kd _ _ _ (by omega),Kd _ _ _ (by omega),Kd _ _ _ t1,t2];exact hd2
theorem lay_all:Lays n d p k T last frm L:=by
 cases h1:kd F6 (ly n k)
 ·cases h2:kd Gq (ly n k)
  ·cases h3:kd Jg (ly n k)
   ·cases h4:kd bBn (ly n k)
    ·exact lay_skip R hk V h1 h2 h3 h4
    ·exact lay_bend R hk V h4
   ·exact lay_pool R hk V h3
  ·exact lay_conv R hk V h2
 ·exact lay_dense R hk V h1
end
open Go.AM
theorem awake12:f9=some true:=by kernel_rfl
theorem run_loops {n:Nt} {d:List (List Int)} {p:List Int} (R:RN n d p):∀ (r m1 m2 k:Nat) (T:List Nd) (last frm:Nat) (L:List Int),k+r=n.2.length→r<m1→r<m2→RV n d k T last frm L→
  ∃ (out:Nat) (T':List Nd) (L':List Int),
   Fq (fun go (x:Int×Int×Int×Int×List Int×List Nd×List Int)=>f21_l4 n (0,d) go x.1 x.2.1 x.2.2.1 x.2.2.2.1 x.2.2.2.2.1 x.2.2.2.2.2.1 x.2.2.2.2.2.2) m1 ((last:Int),(frm:Int),(k:Int),0,p.drop (mny n d k).toNat,T,L)=some ((out:Int),0,p.drop (mny n d n.2.length).toNat,T',L')∧
   Fq (fun go (x:Int×Int×Int×Int×List Int×List Nd)=>f22_l55 n p go x.1 x.2.1 x.2.2.1 x.2.2.2.1 x.2.2.2.2.1 x.2.2.2.2.2) m2 ((frm:Int),(last:Int),mny n d k,(k:Int),L,T)=some (Sum.inr ((out:Int),L',T'))∧
   GL T'∧T'.length≤1+6*n.2.length∧L'.length≤2*n.2.length
 | r,0,m2,k,T,last,frm,L,h1,h2,h3,V=>absurd h2 (by omega)
 | r,m1+1,0,k,T,last,frm,L,h1,h2,h3,V=>absurd h3 (by omega)
 | 0,m1+1,m2+1,k,T,last,frm,L,h1,h2,h3,V=>by
  obtain rfl:k=n.2.length:=by omega
  refine ⟨last,T,L,?_,?_,V.vG,V.vT,V.vs⟩
  ·rw [G7]
   unfold f21_l4
   simp only
   rw [dF,cond_false]
  ·rw [G7]
   unfold f22_l55
   simp only
   rw [dF,cond_false]
 | r+1,m1+1,m2+1,k,T,last,frm,L,h1,h2,h3,V=>by
  have hk:k<n.2.length:=by omega
  have hN:=R.nN
  obtain ⟨out,T',L',e1,e2,V'⟩:=lay_all R hk V
  obtain ⟨o,T'',L'',f1,f2,f3⟩:=run_loops R r m1 m2 (k+1) T' out last L' (by omega) (by omega) (by omega) V'
  refine ⟨o,T'',L'',?_,?_,f3⟩
  ·have hL:=R.W.wL
   have e:f44 T 0 (p.drop (mny n d k).toNat) L ((rd (Ty.z (.p .str (.p (.int .i64) (.int .i64)))) n.2 (k:Int)).1,((rd (Ty.z (.p .str (.p (.int .i64) (.int .i64)))) n.2 (k:Int)).2).1,((rd (Ty.z (.p .str (.p (.int .i64) (.int .i64)))) n.2 (k:Int)).2).2) (rd (Ty.z (.sl (.int .i64))) d (k:Int)) (last:Int) (frm:Int)=_:=e1
   rw [G7]
   unfold f21_l4
   simp only
   rw [dT,cond_true,D4,D4,e,Bh,G1 k]
   exact f1
  ·have hl:=V.vl
   rw [G7]
   unfold f22_l55
   simp only
   rw [dT,cond_true,D4,D4,e2,Bh]
   simp only
   rw [nF rfl,cond_false,G1 k]
   exact f2
theorem run_both (n:Nt) (hN:n.2.length≤12) (p x:List Int) (ip:inI p) (ix:inI x) :
  (∃ e,e≠0∧f21 [] n p x=some (0,e,[],[])∧f22 [] n p x=some (0,e,[],[]))∨
  ∃ (out:Int) (L:List Int) (T:List Nd),f21 [] n p x=some (out,0,L,T)∧f22 [] n p x=some (out,0,L,T)∧GL T∧T.length≤100∧L.length≤100:=by
 obtain ⟨eP,hP⟩:=shapesP n (by omega)
 have eR:=shapesR n (by omega)
 have eP2:f11 (n.1,n.2)=some ((shs n).1,(shs n).2.2):=eP
 have eR2:f15 (n.1,n.2)=some ((shs n).2.1,(shs n).1,(shs n).2.2):=eR
 unfold f21 f22
 rw [eP2,Bh,eR2,Bh]
 by_cases h0:(shs n).1=0
 ·obtain ⟨hg,hw,hs⟩:=hP h0
  have W:=wk_wf hg _ _ (Nat.le_refl _) hw
  have e3:=sumP hg (by omega) W
  rw [hs] at e3
  injection e3 with e3
  have em:(shs n).2.1=mny n (shs n).2.2 n.2.length:=congrArg Prod.fst e3
  have eb:bad n (shs n).2.2=false:=by have:=congrArg Prod.snd e3;simpa using this.symm
  have hs2:f36 (n.1,n.2) (shs n).2.2=some ((shs n).2.1,true):=hs
  have D:=(Jq hg).1
  obtain ⟨q1,q2⟩:=dd_prod D
  simp only
  rw [nF h0,cond_false,cond_false,hs2,Bh]
  have jP:f21_j2 n p x ((shs n).2.1,true)=some (if (p.length:Int)=(shs n).2.1∧(x.length:Int)=Fp n.1 then Sum.inl () else Sum.inr ()):=by
   unfold f21_j2 f21_j3
   simp only
   rw [mprod (Ke D) (by omega) (by have:=D.1;omega),Bh]
   by_cases c1:(p.length:Int)=(shs n).2.1
   ·rw [nF c1,cond_false,Bh]
    by_cases c2:(x.length:Int)=Fp n.1
    ·rw [nF c2,if_pos ⟨c1,c2⟩];rfl
    ·rw [nT c2,if_neg (fun h=>c2 h.2)];rfl
   ·rw [nT c1,if_neg (fun h=>c1 h.1)];rfl
  have jR:f22_j2 n p x ((shs n).2.1,(shs n).1,(shs n).2.2)=some (if (p.length:Int)=(shs n).2.1∧(x.length:Int)=Fp n.1 then Sum.inl () else Sum.inr ()):=by
   unfold f22_j2 f22_j3
   simp only
   rw [rpro (Ke D) (by omega) (by have:=D.1;omega),Bh]
   by_cases c1:(p.length:Int)=(shs n).2.1
   ·rw [nF c1,cond_false,Bh]
    by_cases c2:(x.length:Int)=Fp n.1
    ·rw [nF c2,if_pos ⟨c1,c2⟩];rfl
    ·rw [nT c2,if_neg (fun h=>c2 h.2)];rfl
   ·rw [nT c1,if_neg (fun h=>c1 h.1)];rfl
  rw [jP,Bh,jR,Bh]
  by_cases hc:(p.length:Int)=(shs n).2.1∧(x.length:Int)=Fp n.1
  ·obtain ⟨c1,c2⟩:=hc
   rw [if_pos ⟨c1,c2⟩]
   right
   have R:RN n (shs n).2.2 p:=⟨hN,hg,hw,eb,by rw [c1,em],ip⟩
   have i0:=R.in0
   have epr:=prd_of (Ke D) (by have:=D.1;omega) i0
   have gx:GoodT ((n.1,x):Tn):=⟨tgood_of (by simp only;omega) (by simp only;omega),ix⟩
   obtain ⟨w,a1,a2,a3,a4⟩:=push_leaf [] (n.1,x) (by simp) gl_nil gx
   have hw0:(nd [w] 0).1=dm (shs n).2.2 0:=by
    have:=J6 [] w
    rw [R.W.w0]
    exact (congrArg Prod.fst this).trans a3
   have V:RV n (shs n).2.2 0 [w] 0 0 []:=⟨a4,by simp,by simp,hw0,by simp,fun h=>absurd h (by omega),by simp⟩
   obtain ⟨out,T',L',f1,f2,f3,f4,f5⟩:=run_loops R n.2.length Fv Fv 0 [w] 0 0 [] (by omega) (by show n.2.length<18446744073709551616;omega) (by show n.2.length<18446744073709551616;omega) V
   have f1':Fq (fun go (x:Int×Int×Int×Int×List Int×List Nd×List Int)=>f21_l4 n ((shs n).1,(shs n).2.2) go x.1 x.2.1 x.2.2.1 x.2.2.2.1 x.2.2.2.2.1 x.2.2.2.2.2.1 x.2.2.2.2.2.2) Fv ((0:Int),(0:Int),(0:Int),(0:Int),p,[w],[])=some ((out:Int),0,p.drop (mny n (shs n).2.2 n.2.length).toNat,T',L'):=by rw [h0];exact f1
   have f2':Fq (fun go (x:Int×Int×Int×Int×List Int×List Nd)=>f22_l55 n p go x.1 x.2.1 x.2.2.1 x.2.2.2.1 x.2.2.2.2.1 x.2.2.2.2.2) Fv ((0:Int),(0:Int),(0:Int),(0:Int),[],[w])=some (Sum.inr ((out:Int),L',T')):=f2
   have lf:f43 [] 0 p [] n.1 x=some (0,0,p,[],[w]):=leafM a1
   have a2':f46 [] (n.1,x)=some (0,0,[w]):=a2
   refine ⟨(out:Int),L',T',?_,?_,f3,by omega,by omega⟩
   ·rw [Fu,show f25 []=some (0,[]) from rfl,Bh]
    simp only
    rw [lf,Bh]
    simp only
    rw [f1',Bh]
    simp only
    rw [nF rfl,cond_false]
   ·rw [Fu,a2',Bh]
    simp only
    rw [nF rfl,cond_false,f2',Bh,F4]
  ·rw [if_neg hc]
   exact .inl ⟨1,by decide,rfl,rfl⟩
 ·simp only
  rw [nT h0,cond_true,cond_true]
  exact .inl ⟨_,h0,rfl,rfl⟩
theorem net_go (n:Nt) (hN:n.2.length≤12):f16 n=some n:=by
 unfold f16
 have LL:=F2 (B:=fun go (x:Int×List Lay)=>f16_l1 n go x.1 x.2) (fun k=>((k:Int),n.2.take k)) n.2.length n.2 ?_ ?_ (by omega)
 ·have L':Fq (fun go (x:Int×List Lay)=>f16_l1 n go x.1 x.2) Fv ((0:Int),[])=_:=LL
  rw [L',Bh]
 ·intro k hk go
  have er:rd (Ty.z (.p .str (.p (.int .i64) (.int .i64)))) n.2 (k:Int)=n.2[k]:=Gj _ _ _ hk
  have g3:(List.length (n.2.take k)+List.length [((n.2[k]).1,(n.2[k]).2.1,(n.2[k]).2.2)])*32≤140737488355328:=by simp only [List.length_cons,List.length_nil,List.length_take];omega
  unfold f16_l1
  simp only
  rw [dT,cond_true,D4,D4,D4,er,D4 g3,G1 k,List.take_succ_eq_append_getElem hk]
 ·intro go
  unfold f16_l1
  simp only
  rw [dF,cond_false,List.take_length]
theorem size_go {d:List Int} (D:DD d) (h:Fp d≤4096):f18 d=some (Fp d):=by
 have hl:=D.1
 unfold f18
 have LL:=F2 (B:=fun go (x:Int×Int)=>f18_l3 d go x.1 x.2) (fun k=>(Fp (d.take k),(k:Int))) d.length (Fp d) ?_ ?_ (by omega)
 ·have L':Fq (fun go (x:Int×Int)=>f18_l3 d go x.1 x.2) Fv ((1:Int),(0:Int))=_:=LL
  rw [L',Bh]
 ·intro k hk go
  obtain ⟨p1,p2⟩:=prodL_le (Ke D) k
  obtain ⟨p3,p4⟩:=prodL_le (Ke D) (k+1)
  unfold f18_l3 f18_j4
  simp only
  rw [dT,cond_true,dT,cond_true,Bh,Fu,D4,G1 k,← J3 k hk,Fl]
 ·intro go
  unfold f18_l3 f18_j4
  simp only
  rw [dF,cond_false,Bh,F4,List.take_length]
theorem filled_go (l:List Int) (N:Int) (h0:0≤N) (h1:N≤200) (il:inI l):∃ m,f19 l N=some m∧inI m:=by
 unfold f19
 rw [D4]
 obtain ⟨z,e,hz⟩:=Gd (B:=fun go (x:Int×List Int)=>f19_l3 l N go x.1 x.2) (fun x=>∃ k:Nat,x.1=(k:Int)∧(x.2.length:Int)=N∧inI x.2) (fun x=>(N-x.1).toNat) (fun z=>inI z) (by
  rintro ⟨_,m⟩ ⟨k,rfl,hm,im⟩
  simp only at hm im
  by_cases c1:(k:Int)<N
  ·by_cases c2:(List.length l:Int)>0
   ·right
    have t1:=Int.tmod_nonneg (l.length:Int) (show 0≤(k:Int) by omega)
    have t2:=Int.tmod_lt_of_pos (k:Int) c2
    refine ⟨(((k+1:Nat):Int),List.set m (Int.toNat (k:Int)) (rd (0:Int) l (Int.tmod (k:Int) (l.length:Int)))),fun go=>?_,⟨k+1,rfl,by simp only [List.length_set];exact hm,?_⟩,by simp only;omega⟩
    ·unfold f19_l3 f19_j4
     simp only
     rw [dT c1,cond_true,dT c2,cond_true,Bh,Fu,D4,D4 ⟨t1,t2⟩,D4,G1 k]
    ·intro y hy
     rcases List.mem_or_eq_of_mem_set hy with h | h
     ·exact im y h
     ·rw [h]
      obtain ⟨j,hj⟩:=Int.eq_ofNat_of_zero_le t1
      rw [hj]
      exact inI_rd il j (by omega)
   ·left
    refine ⟨m,fun go=>?_,im⟩
    unfold f19_l3 f19_j4
    simp only
    rw [dT c1,cond_true,dF c2,cond_false,Bh,F4]
  ·left
   refine ⟨m,fun go=>?_,im⟩
   unfold f19_l3 f19_j4
   simp only
   rw [dF c1,cond_false,Bh,F4]) ((0:Int),List.replicate (Int.toNat N) (0:Int)) ⟨0,rfl,by rw [List.length_replicate];omega,fun y hy=>by rw [(List.mem_replicate.1 hy).2];decide⟩ (by simp only;omega)
 rw [e,Bh];exact ⟨z,rfl,hz⟩
theorem runs_j1 (n:Nt) (p x:List Int):(f5_j1 n p x=some (Sum.inl ())∧n.2.length≤12)∨f5_j1 n p x=some (Sum.inr ()):=by
 unfold f5_j1
 by_cases c1:(List.length n.1:Int)>10
 ·rw [dT c1];exact .inr rfl
 rw [dF c1,cond_false]
 by_cases c2:(List.length n.2:Int)>12
 ·rw [dT c2];exact .inr rfl
 rw [dF c2,cond_false]
 by_cases c3:(List.length p:Int)>300
 ·rw [dT c3];exact .inr rfl
 rw [dF c3,cond_false]
 by_cases c4:(List.length x:Int)>100
 ·rw [dT c4];exact .inr rfl
 rw [dF c4]
 exact .inl ⟨rfl,by omega⟩
theorem nodes12 (out e:Int) (L:List Int) (T:List Nd) (G:GL T) (hl:T.length≤100):Fq (fun go (x:Int×List Nd)=>f5_l7 (out,e,L,T) go x.1 x.2) Fv ((0:Int),T)=some (Sum.inr T):=by
 refine F2 (B:=fun go (x:Int×List Nd)=>f5_l7 (out,e,L,T) go x.1 x.2) (fun k=>((k:Int),T)) T.length (Sum.inr T) ?_ ?_ (by omega)
 ·intro k hk go
  have g:0≤(k:Int)∧(k:Int)<(T.length:Int):=by omega
  have hg:=G k hk
  have eN:rd (Ty.z (.p (.int .i64) (.p (.int .i64) (.p (.int .i64) (.p (.int .i64) (.p (.sl (.int .i64)) (.sl (.int .i64)))))))) T (k:Int)=gn T k:=rfl
  have ea:f24 ((nd T k).1,(nd T k).2) ((gn T k).2.2.2.2.1,(gn T k).2.2.2.2.2)=some true:=by
   obtain ⟨_,_,l1,l2⟩:=Ga hg.1
   have:=alikeR (nd T k) (nd T k) (by omega) (by omega)
   rw [dT rfl] at this;exact this
  unfold f5_l7
  simp only
  rw [dT,cond_true,atP T k hk hg,Bh]
  simp only
  rw [Bool.not_true,cond_false,D4 g,eN,nF rfl,cond_false,D4 g,nF rfl,cond_false,D4 g,nF rfl,cond_false,D4 g,nF rfl,cond_false,D4 g,ea,Bh,Bool.not_true,cond_false,G1 k]
 ·intro go
  unfold f5_l7
  simp only
  rw [dF,cond_false]
theorem lawRuns (n:Nt) (p x:List Int) (fit:Bool) (ip:inI p) (ix:inI x):f5 n p x fit=some true:=by
  unfold f5
  rw [awake12,Bh,Bool.not_true,cond_false]
  rcases runs_j1 n p x with ⟨ej,hN⟩ | ej
  · have en:f16 (n.1,n.2)=some n:=net_go n hN
    have eR:f15 (n.1,n.2)=some ((shs n).2.1,(shs n).1,(shs n).2.2):=shapesR n (by omega)
    rw [ej,Bh,Fu,en,Bh,eR,Bh]
    have fin:∀ p x:List Int,inI p→inI x→(Ey f20 fun r16=>Ey (f21 [] (n.1,n.2) p x) fun r17=>Ey (some n) fun r18=>Ey (f22 [] (r18.1,r18.2) p x) fun r19=>Ey (f5_j6 r17 r19) fun z21=>Fx z21 (fun z21a=>
          bif (r17.2.1 != (0:Int)) then some true else Ey (Fq (fun go x=>f5_l7 r19 go x.1 x.2) Fv ((0:Int),r17.2.2.2)) fun z25=>Fx z25 (fun z25a=>some false) (fun z25b=>Ey (f25 z25b) fun q24_1=>some (q24_1.1==(List.length r19.2.2.2:Int)))) (fun z21b=>some false))=some true:=fun p x ip ix=>by
      rw [show f20=some () from rfl,Bh]
      rcases run_both n hN p x ip ix with ⟨e,he,e1,e2⟩ | ⟨out,L,T,e1,e2,G,hT,hL⟩
      · have e1':f21 [] (n.1,n.2) p x=_:=e1
        have e2':f22 [] (n.1,n.2) p x=_:=e2
        have j6:f5_j6 (0,e,[],[]) (0,e,[],[])=some (Sum.inl ()):=by
          unfold f5_j6
          simp only
          rw [nF rfl,cond_false,nF rfl,cond_false,same_ok [] (by simp)];rfl
        rw [e1',Bh,Bh,e2',Bh,j6,Bh,Fu,nT he,cond_true]
      · have e1':f21 [] (n.1,n.2) p x=_:=e1
        have e2':f22 [] (n.1,n.2) p x=_:=e2
        have j6:f5_j6 (out,0,L,T) (out,0,L,T)=some (Sum.inl ()):=by
          unfold f5_j6
          simp only
          rw [nF rfl,cond_false,nF rfl,cond_false,same_ok L (by omega)];rfl
        rw [e1',Bh,Bh,e2',Bh,j6,Bh,Fu,nF rfl,cond_false]
        simp only
        rw [nodes12 out 0 L T G hT,Bh,F4,show f25 T=some ((T.length:Int),T) from rfl,Bh,bT rfl]
    by_cases h0:(shs n).1=0
    · obtain ⟨hg,hw,hs⟩:=(shapesP n (by omega)).2 h0
      have W:=wk_wf hg _ _ (Nat.le_refl _) hw
      have e3:=sumP hg (by omega) W
      rw [hs] at e3
      injection e3 with e3
      have em:(shs n).2.1=mny n (shs n).2.2 n.2.length:=congrArg Prod.fst e3
      have eb:bad n (shs n).2.2=false:=by have:=congrArg Prod.snd e3;simpa using this.symm
      have i0:Fp n.1≤4096:=by
        unfold bad at eb
        simp only [Bool.or_eq_false_iff,decide_eq_false_iff_not] at eb
        omega
      have D:=(Jq hg).1
      obtain ⟨q1,q2⟩:=dd_prod D
      have es:=size_go D i0
      have hm:=(mny_in hg (by omega) W n.2.length (Nat.le_refl _)).1
      have ej2:(f5_j2 n ((shs n).2.1,(shs n).1,(shs n).2.2)=some (Sum.inl ())∧(shs n).2.1≤150∧Fp n.1≤60)∨f5_j2 n ((shs n).2.1,(shs n).1,(shs n).2.2)=some (Sum.inr ()):=by
        unfold f5_j2
        simp only
        rw [bT h0,cond_true,es]
        by_cases c1:(shs n).2.1>150
        · rw [dT c1];exact .inr rfl
        rw [dF c1,cond_false,Bh]
        by_cases c2:Fp n.1>60
        · rw [dT c2];exact .inr rfl
        rw [dF c2]
        exact .inl ⟨rfl,by omega,by omega⟩
      rcases ej2 with ⟨ej2,b1,b2⟩ | ej2
      · rw [ej2,Bh,Fu]
        have ej4:∃ p' x',f5_j4 n p x fit ((shs n).2.1,(shs n).1,(shs n).2.2)=some (p',x')∧inI p'∧inI x':=by
          unfold f5_j4 f5_j5
          simp only
          cases fit
          · exact ⟨p,x,rfl,ip,ix⟩
          · rw [cond_true,bT h0,Bh,cond_true]
            obtain ⟨p',e1,i1⟩:=filled_go p (shs n).2.1 (by omega) (by omega) ip
            obtain ⟨x',e2,i2⟩:=filled_go x (Fp n.1) (by omega) (by omega) ix
            rw [e1,Bh,es,Bh,e2,Bh]
            exact ⟨p',x',rfl,i1,i2⟩
        obtain ⟨p',x',ej4,i1,i2⟩:=ej4
        rw [ej4,Bh]
        exact fin p' x' i1 i2
      · rw [ej2,Bh,F4]
    · have ej2:f5_j2 n ((shs n).2.1,(shs n).1,(shs n).2.2)=some (Sum.inl ()):=by
        unfold f5_j2
        simp only
        rw [bF h0];rfl
      have ej4:f5_j4 n p x fit ((shs n).2.1,(shs n).1,(shs n).2.2)=some (p,x):=by
        unfold f5_j4 f5_j5
        simp only
        cases fit
        · rfl
        · rw [cond_true,bF h0];rfl
      rw [ej2,Bh,Fu,ej4,Bh]
      exact fin p x ip ix
  · rw [ej,Bh,F4]
end Go.Proofs.Cv
namespace Go.Proofs.PlG
open Go.AM Go.Proofs.PlW
theorem range_i64 {x:Int} (h:Ty.wf (.int .i64) x) : -9223372036854775808≤x∧x<9223372036854775808:=by
 have h:(Lit.int .i64 x).wf=true:=h
 simp only [Lit.wf,IntKind.min,IntKind.max,IntKind.signed,IntKind.bits,Bool.and_eq_true,decide_eq_true_eq,if_true] at h
 omega
theorem row_i64 {l:List Int} (h:Ty.wf (.sl (.int .i64)) l):inI l:=fun x hx=>range_i64 (h.2 x hx)
end Go.Proofs.PlG

