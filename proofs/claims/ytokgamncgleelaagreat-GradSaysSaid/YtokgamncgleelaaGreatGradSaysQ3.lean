import Derived.Test.YtokgamncgleelaaGreatGradSaysQ2
import Derived.Test.YtokgamncgleelaaGreatGradSaysS5
import Derived.Test.YtokgamncgleelaaGreatGradSaysQ0
import Derived.Test.YtokgamncgleelaaGreatAmY
set_option linter.unusedVariables false
set_option linter.unusedSimpArgs false
set_option linter.unusedSectionVars false
set_option maxRecDepth 100000
set_option maxRecDepth 1000000

namespace Go.Proofs.Cv
open Go.AM Go.Proofs.PlB Go.Proofs.PlW Go.Proofs.PlT Go.Proofs.PlS Go.Proofs.Sh Go.Proofs.Num Go.Proofs.Div Go.Proofs.Op
open Go.Proofs.PlR hiding Tn
def Push (p q:Option (Int×Int×List Nd)) (l:List Nd) (d:List Int):Prop:=
 ∃ m:Nd,p=some ((l.length:Int),0,l++[m])∧q=some ((l.length:Int),0,l++[m])∧m.2.2.2.2.1=d∧PL (l++[m])
theorem push_leaf (l:List Nd) (x:Tn) (hl:l.length<512) (G:PL l) (gx:F4 x):Push (f100 l x) (f77 l x) l x.1:=
 ⟨_,leaf_ok l x hl gx.1,leafR l x hl gx.1,rfl,pl_push G _ gx (.inl ⟨rfl,rfl,rfl⟩)⟩
theorem push_two (l:List Nd) (op:Int) (A B:Nat) (k:Int) (hl:l.length<512) (G:PL l) (o1:2≤op) (o2:op≤14) (ht:Kh op=true) (hA:A<l.length) (hB:B<l.length) (r:Int×Tn)
  (e1:f195 op (nd l A) (nd l B) k=some r) (e2:f121 op (nd l A) (nd l B) (cntK op k)=some r) (er:r.1=0) (gr:F4 r.2):Push (f157 l op A B k) (f78 l op A B k) l r.2.1:=by
 have gA:0≤(A:Int)∧(A:Int)<(l.length:Int):=by omega
 have gB:0≤(B:Int)∧(B:Int)<(l.length:Int):=by omega
 have hj1P:f157_j1 l op A B=some (Sum.inl l):=by
  unfold f157_j1
  rw [dF,dF,dF,hasP,dT gA,two_ok]
  simp only [cond_false,A9,Bool.not_true]
  rw [ht,cond_true,hasP,dT gB];rfl
 have hj1R:f78_j1 l op A B=some (Sum.inl ()):=by
  unfold f78_j1
  rw [dF,dF,dF,dF,twoR]
  simp only [cond_false,A9]
  rw [ht,cond_true,dF,dF];rfl
 have m1:f157_j3 op A B k l=some (r.1,(B:Int),r.2.1,r.2.2):=by
  unfold f157_j3
  unfold nd at e1
  rw [two_ok,ht,A9,cond_true,Bh gA,Bh gB,e1];rfl
 have m2:f78_j2 l op B=some ((B:Int),nd l B):=by
  unfold f78_j2
  rw [twoR,ht,A9,cond_true,Bh gB];rfl
 have m3:f78_j4 l op A ((B:Int),nd l B) (cntK op k)=some r:=by
  unfold f78_j4
  have e:f121 op ((rd (Ty.z (.p (.int .i64) (.p (.int .i64) (.p (.int .i64) (.p (.int .i64) (.p (.sl (.int .i64)) (.sl (.int .i64)))))))) l (A:Int)).2.2.2.2.1,(rd (Ty.z (.p (.int .i64) (.p (.int .i64) (.p (.int .i64) (.p (.int .i64) (.p (.sl (.int .i64)) (.sl (.int .i64)))))))) l (A:Int)).2.2.2.2.2) (((B:Int),nd l B).2.1,((B:Int),nd l B).2.2) (cntK op k)=some r:=e2
  rw [Bh gA,e];rfl
 have h3:∀ x:Nd,(l.length+List.length [x])*80≤140737488355328:=fun x=>by simp only [List.length_cons,List.length_nil];omega
 refine ⟨(op,(A:Int),(B:Int),cntK op k,r.2.1,r.2.2),?_,?_,rfl,pl_push G _ gr (.inr (.inl ⟨A,B,k,rfl,rfl,rfl,hA,hB,ht,by rw [e1];rw [← er]⟩))⟩
 ·unfold f157
  rw [hj1P,A9,Fl,cnt_ok,A9,m1,A9,nF er,cond_false,push_ok _ _ hl];rfl
 ·unfold f78
  rw [dF,cond_false,hj1R,A9,Fl,m2,A9,cntR,A9,m3,A9,nF er,cond_false,Bh (h3 _),List.length_append,E9 (by simp <;> omega) (by simp <;> omega)]
  simp
theorem push_one (l:List Nd) (op:Int) (A:Nat) (b b' k:Int) (hl:l.length<512) (G:PL l) (o1:2≤op) (o2:op≤14) (ht:Kh op=false) (hA:A<l.length) (ik:InR k) (r:Int×Tn)
  (e1:f196 op (nd l A) k=some r) (e2:f121 op (nd l A) noT (cntK op k)=some r) (er:r.1=0) (gr:F4 r.2):Push (f157 l op A b k) (f78 l op A b' k) l r.2.1:=by
 have gA:0≤(A:Int)∧(A:Int)<(l.length:Int):=by omega
 have hj1P:f157_j1 l op A b=some (Sum.inl l):=by
  unfold f157_j1
  rw [dF,dF,dF,hasP,dT gA,two_ok]
  simp only [cond_false,A9,Bool.not_true]
  rw [ht];rfl
 have hj1R:f78_j1 l op A b'=some (Sum.inl ()):=by
  unfold f78_j1
  rw [dF,dF,dF,dF,twoR]
  simp only [cond_false,A9]
  rw [ht];rfl
 have m1:f157_j3 op A b k l=some (r.1,-1,r.2.1,r.2.2):=by
  unfold f157_j3
  unfold nd at e1
  rw [two_ok,ht,A9,cond_false,Bh gA,e1];rfl
 have m2:f78_j2 l op b'=some (-1,noT):=by
  unfold f78_j2
  rw [twoR,ht];rfl
 have m3:f78_j4 l op A (-1,noT) (cntK op k)=some r:=by
  unfold f78_j4
  have e:f121 op ((rd (Ty.z (.p (.int .i64) (.p (.int .i64) (.p (.int .i64) (.p (.int .i64) (.p (.sl (.int .i64)) (.sl (.int .i64)))))))) l (A:Int)).2.2.2.2.1,(rd (Ty.z (.p (.int .i64) (.p (.int .i64) (.p (.int .i64) (.p (.int .i64) (.p (.sl (.int .i64)) (.sl (.int .i64)))))))) l (A:Int)).2.2.2.2.2) (((-1:Int),noT).2.1,((-1:Int),noT).2.2) (cntK op k)=some r:=e2
  rw [Bh gA,e];rfl
 have h3:∀ x:Nd,(l.length+List.length [x])*80≤140737488355328:=fun x=>by simp only [List.length_cons,List.length_nil];omega
 refine ⟨(op,(A:Int),(-1:Int),cntK op k,r.2.1,r.2.2),?_,?_,rfl,pl_push G _ gr (.inr (.inr ⟨A,k,rfl,rfl,rfl,hA,o1,o2,ht,ik,by rw [e1];rw [← er]⟩))⟩
 ·unfold f157
  rw [hj1P,A9,Fl,cnt_ok,A9,m1,A9,nF er,cond_false,push_ok _ _ hl];rfl
 ·unfold f78
  rw [dF,cond_false,hj1R,A9,Fl,m2,A9,cntR,A9,m3,A9,nF er,cond_false,Bh (h3 _),List.length_append,E9 (by simp <;> omega) (by simp <;> omega)]
  simp
section
variable {l:List Nd} (hl:l.length<512) (G:PL l)
include hl G
theorem push_add {A B:Nat} (hA:A<l.length) (hB:B<l.length) (h:(nd l A).1=(nd l B).1):Push (f157 l 2 A B 0) (f78 l 2 A B 0) l (nd l A).1:=by
 have ga:=G.1 A hA
 have gb:=G.1 B hB
 have eb:=both_self addV (nd l A) (nd l B) ga.1 gb.1 h
 have e1:f195 2 (nd l A) (nd l B) 0=some (Jd addV (nd l A) (nd l B)):=by
  show D4 (f117 (nd l A) (nd l B)) _=_
  rw [addP _ _ ga.2 gb.2];rfl
 have e2:f121 2 (nd l A) (nd l B) (cntK 2 0)=some (Jd addV (nd l A) (nd l B)):=by
  unfold f121 f121_j3
  rw [show f121_j4 2=some true from rfl,A9,cond_true,E9]
  have e:f81 (2-2) ((nd l A).1,(nd l A).2) ((nd l B).1,(nd l B).2)=some (Jd addV (nd l A) (nd l B)):=addR _ _ ga.2 gb.2
  rw [e];rfl
 have er:(Jd addV (nd l A) (nd l B)).1=0:=by rw [eb]
 have P:=push_two l 2 A B 0 hl G (by omega) (by omega) (by kernel_rfl) hA hB _ e1 e2 er (both_good addV (fun x y=>Jg _) _ _ er)
 rw [eb] at P
 exact P
theorem push_mul {A B:Nat} (hA:A<l.length) (hB:B<l.length) (a K:Int) (ha:(nd l A).1=[a,K]) (hb:(nd l B).1=[K]):Push (f157 l 4 A B 0) (f78 l 4 A B 0) l [a,K]:=by
 have ga:=G.1 A hA
 have gb:=G.1 B hB
 have pa:=(Fw ga.1).1
 have pb:=(Fw gb.1).1
 rw [ha] at pa
 rw [hb] at pb
 have F:Fits [K] [a,K]:=⟨pb,pa,by simp,fun k hk _=>by
  obtain rfl:k=0:=by simpa using hk
  rfl⟩
 have ej:jS (nd l A).1 (nd l B).1=(0,[a,K]):=by rw [ha,hb,jS_comm];exact jS_fits.2 F
 have eb:(Jd K9 (nd l A) (nd l B)).1=0∧(Jd K9 (nd l A) (nd l B)).2.1=[a,K]:=by
  unfold Jd
  rw [if_pos ⟨ga.1,gb.1⟩,ej,if_pos rfl];exact ⟨rfl,rfl⟩
 have e1:f195 4 (nd l A) (nd l B) 0=some (Jd K9 (nd l A) (nd l B)):=by
  show D4 (f161 (nd l A) (nd l B)) _=_
  rw [mulP _ _ ga.2 gb.2];rfl
 have e2:f121 4 (nd l A) (nd l B) (cntK 4 0)=some (Jd K9 (nd l A) (nd l B)):=by
  unfold f121 f121_j3
  rw [show f121_j4 4=some true from rfl,A9,cond_true,E9]
  have e:f81 (4-2) ((nd l A).1,(nd l A).2) ((nd l B).1,(nd l B).2)=some (Jd K9 (nd l A) (nd l B)):=mulR _ _ ga.2 gb.2
  rw [e];rfl
 have P:=push_two l 4 A B 0 hl G (by omega) (by omega) (by kernel_rfl) hA hB _ e1 e2 eb.1 (both_good K9 (fun x y=>Jg _) _ _ eb.1)
 rw [eb.2] at P
 exact P
theorem push_sum {A:Nat} (hA:A<l.length) (a K:Int) (ha:(nd l A).1=[a,K]):Push (f157 l 8 A 0 1) (f78 l 8 A (-1) 1) l [a]:=by
 have ga:=G.1 A hA
 have ask:G6 (nd l A) 1:=⟨ga.1,by omega,by rw [ha];simp⟩
 have eb:(Kq (nd l A) 1).1=0∧(Kq (nd l A) 1).2.1=[a]:=by
  unfold Kq
  rw [if_pos ask,ha];exact ⟨rfl,rfl⟩
 have e1:f196 8 (nd l A) 1=some (Kq (nd l A) 1):=by
  show D4 (f220 (nd l A) 1) _=_
  rw [sideP _ 1 ga.2];rfl
 have e2:f121 8 (nd l A) noT (cntK 8 1)=some (Kq (nd l A) 1):=by
  have ek:cntK 8 1=1:=rfl
  unfold f121 f121_j3
  rw [show f121_j4 8=some false from rfl,A9,cond_false,bF (by decide),cond_false,bF (by decide),cond_false,bF (by decide),cond_false,bT rfl,cond_true,ek,Lb,A9]
  have e:f174 ((nd l A).1,(nd l A).2) (wh 1)=some (Kq (nd l A) (wh 1)):=sideR _ (wh 1) ga.2
  rw [e,side_wh _ 1 ga.1];rfl
 have P:=push_one l 8 A 0 (-1) 1 hl G (by omega) (by omega) (by kernel_rfl) hA ⟨by omega,by omega⟩ _ e1 e2 eb.1 (side_good _ 1 eb.1)
 rw [eb.2] at P
 exact P
theorem push_bend {A:Nat} (hA:A<l.length) (k:Int) (k0:1≤k) (k5:k≤5):Push (f157 l 11 A 0 k) (f78 l 11 A (-1) k) l (nd l A).1:=by
 have ga:=G.1 A hA
 have eb:(Lx k (nd l A)).1=0∧(Lx k (nd l A)).2.1=(nd l A).1:=by
  unfold Lx
  rw [if_pos ⟨k0,k5,ga.1⟩];exact ⟨rfl,rfl⟩
 have e1:f196 11 (nd l A) k=some (Lx k (nd l A)):=by
  show D4 (f224 k (nd l A)) _=_
  rw [bentP k _ ga.2];rfl
 have e2:f121 11 (nd l A) noT (cntK 11 k)=some (Lx k (nd l A)):=by
  have ek:cntK 11 k=k:=rfl
  unfold f121 f121_j3
  rw [show f121_j4 11=some false from rfl,A9,cond_false,bF (by decide),cond_false,bF (by decide),cond_false,bF (by decide),cond_false,bF (by decide),cond_false,bF (by decide),cond_false,bF (by decide),cond_false,bT rfl,cond_true,ek,Lb,A9]
  have e:f179 (wh k) ((nd l A).1,(nd l A).2)=some (Lx (wh k) (nd l A)):=bentR (wh k) _ ga.2
  rw [e,bent_wh];rfl
 have P:=push_one l 11 A 0 (-1) k hl G (by omega) (by omega) (by kernel_rfl) hA ⟨by omega,by omega⟩ _ e1 e2 eb.1 (bent_good k _ ga.2 eb.1)
 rw [eb.2] at P
 exact P
theorem push_shape {A:Nat} (hA:A<l.length):Push (f157 l 14 A 0 0) (f78 l 14 A (-1) 0) l [Ft (nd l A).1]:=by
 have ga:=G.1 A hA
 obtain ⟨p0,p1,p2,p3⟩:=Fw ga.1
 obtain ⟨q1,_⟩:=Gw p0
 have ep:=prd_one ((nd l A).2.length:Int) (by omega) (by omega)
 have eb:(Li (nd l A) [((nd l A).2.length:Int)]).1=0∧(Li (nd l A) [((nd l A).2.length:Int)]).2.1=[Ft (nd l A).1]:=by
  unfold Li
  rw [if_pos ⟨ga.1,by omega⟩,if_pos ep]
  exact ⟨rfl,by rw [p1,q1]⟩
 have e1:f196 14 (nd l A) 0=some (Li (nd l A) [((nd l A).2.length:Int)]):=by
  show D4 (f170 (nd l A) [((nd l A).2.length:Int)]) _=_
  rw [reshP];rfl
 have e2:f121 14 (nd l A) noT (cntK 14 0)=some (Li (nd l A) [((nd l A).2.length:Int)]):=by
  unfold f121 f121_j3
  rw [show f121_j4 14=some false from rfl,A9,cond_false,bF (by decide),cond_false,bF (by decide),cond_false,bF (by decide),cond_false,bF (by decide),cond_false,bF (by decide),cond_false,bF (by decide),cond_false,bF (by decide),cond_false,bF (by decide),cond_false,bF (by decide),cond_false,A9,Fl]
  have e:f135 ((nd l A).1,(nd l A).2) [((nd l A).2.length:Int)]=some (Li (nd l A) [((nd l A).2.length:Int)]):=reshR _ _
  rw [e];rfl
 have P:=push_one l 14 A 0 (-1) 0 hl G (by omega) (by omega) (by kernel_rfl) hA ⟨by omega,by omega⟩ _ e1 e2 eb.1 (resh_good _ _ ga.2 eb.1)
 rw [eb.2] at P
 exact P
theorem push_pool {A:Nat} (hA:A<l.length) (c L w:Int) (ha:(nd l A).1=[c,L]) (w1:1≤w) (wL:w≤L):Push (f157 l 13 A 0 w) (f78 l 13 A (-1) w) l [c,L/w]:=by
 have ga:=G.1 A hA
 have e0:rd (0:Int) (nd l A).1 0=c:=by rw [ha];rfl
 have e1':rd (0:Int) (nd l A).1 1=L:=by rw [ha];rfl
 have eb:(Gq (nd l A) w).1=0∧(Gq (nd l A) w).2.1=[c,L/w]:=by
  unfold Gq
  rw [if_pos ga.1,if_pos (by rw [ha];rfl),if_pos ⟨w1,by rw [e1'];exact wL⟩]
  refine ⟨rfl,?_⟩
  simp only
  rw [e0,e1']
  obtain ⟨x,rfl⟩:=Int.eq_ofNat_of_zero_le (show 0≤w by omega)
  obtain ⟨y,rfl⟩:=Int.eq_ofNat_of_zero_le (show 0≤L by omega)
  rfl
 have e1:f196 13 (nd l A) w=some ((Gq (nd l A) w).1,(Gq (nd l A) w).2.1,(Gq (nd l A) w).2.2.1):=by
  show D4 (f213 (nd l A) w) _=_
  rw [poolP _ w];rfl
 have e2:f121 13 (nd l A) noT (cntK 13 w)=some ((Gq (nd l A) w).1,(Gq (nd l A) w).2.1,(Gq (nd l A) w).2.2.1):=by
  have ek:cntK 13 w=w:=rfl
  unfold f121 f121_j3 f121_j5
  rw [show f121_j4 13=some false from rfl,A9,cond_false,bF (by decide),cond_false,bF (by decide),cond_false,bF (by decide),cond_false,bF (by decide),cond_false,bF (by decide),cond_false,bF (by decide),cond_false,bF (by decide),cond_false,bF (by decide),cond_false,bT rfl,cond_true,ek,Lb,A9]
  have e:f134 ((nd l A).1,(nd l A).2) (wh w)=some (Gq (nd l A) (wh w)):=poolR _ (wh w)
  rw [e,pool_wh _ w ga.1];rfl
 have hL:L≤4096:=by
  obtain ⟨c',L',hc,h1,h2,_,h3⟩:=Gx ga.1 (by rw [ha];rfl)
  have q:[c,L]=[(c':Int),(L':Int)]:=ha.symm.trans (congrArg Prod.fst hc)
  simp only [List.cons.injEq,and_true] at q
  have:=Nat.le_mul_of_pos_left L' h1
  omega
 have P:=push_one l 13 A 0 (-1) w hl G (by omega) (by omega) (by kernel_rfl) hA ⟨by omega,by omega⟩ _ e1 e2 eb.1 (pool_good _ w ga.2 eb.1)
 simp only at P
 rw [eb.2] at P
 exact P
theorem push_row {A B:Nat} (hA:A<l.length) (hB:B<l.length) (c L m b:Int) (ha:(nd l A).1=[c,L]) (hb:(nd l B).1=[m,c,b]) (b1:1≤b) (bL:b≤L) (m1:1≤m) (hm:m*(L-b+1)≤4096) :
  Push (f157 l 12 A B 1) (f78 l 12 A B 1) l [m,L-b+1]:=by
 have ga:=G.1 A hA
 have gb:=G.1 B hB
 have f0:rd (0:Int) (nd l A).1 0=c:=by rw [ha];rfl
 have f1:rd (0:Int) (nd l A).1 1=L:=by rw [ha];rfl
 have g0:rd (0:Int) (nd l B).1 0=m:=by rw [hb];rfl
 have g1:rd (0:Int) (nd l B).1 1=c:=by rw [hb];rfl
 have g2:rd (0:Int) (nd l B).1 2=b:=by rw [hb];rfl
 have em:(F7 L.toNat b.toNat (Int.toNat 1):Int)=L-b+1:=by
  unfold F7
  rw [show Int.toNat 1=1 from rfl,Nat.div_one];omega
 have pm:0<prd [m,L-b+1]:=by
  rw [prd_two]
  have h1:=Int.mul_le_mul m1 (Int.le_refl (L-b+1)) (by omega) (by omega)
  have h2:=Int.mul_le_mul (Int.le_refl m) (show 1≤L-b+1 by omega) (by omega) (by omega)
  rw [iNo];omega
 have eb:(rowS (nd l A) (nd l B) 1).1=0∧(rowS (nd l A) (nd l B) 1).2.1=[m,L-b+1]:=by
  unfold rowS
  rw [if_pos ⟨ga.1,gb.1,by omega,by omega⟩,if_pos ⟨by rw [ha];rfl,by rw [hb];rfl,by rw [g1,f0],by rw [g2,f1];exact bL⟩,f1,g0,g2,em,if_pos pm]
  exact ⟨rfl,rfl⟩
 have e1:f195 12 (nd l A) (nd l B) 1=some (rowS (nd l A) (nd l B) 1):=by
  show D4 (f219 (nd l A) (nd l B) 1) _=_
  rw [rowP _ _ 1 ga.2 gb.2];rfl
 have e2:f121 12 (nd l A) (nd l B) (cntK 12 1)=some (rowS (nd l A) (nd l B) 1):=by
  have ek:cntK 12 1=1:=rfl
  unfold f121 f121_j3
  rw [show f121_j4 12=some false from rfl,A9,cond_false,bF (by decide),cond_false,bF (by decide),cond_false,bF (by decide),cond_false,bF (by decide),cond_false,bF (by decide),cond_false,bF (by decide),cond_false,bF (by decide),cond_false,bT rfl,cond_true,ek,Lb,A9]
  have e:f180 ((nd l A).1,(nd l A).2) ((nd l B).1,(nd l B).2) (wh 1)=some (rowS (nd l A) (nd l B) (wh 1)):=rowR _ _ (wh 1) ga.2 gb.2
  rw [e,row_wh];rfl
 have P:=push_two l 12 A B 1 hl G (by omega) (by omega) (by kernel_rfl) hA hB _ e1 e2 eb.1 (row_good2 _ _ 1 eb.1)
 rw [eb.2] at P
 exact P
end
theorem prd_of {d:List Int} (h1:∀ x ∈ d,1≤x) (hl:d.length≤4) (h:Ft d≤4096):prd d=Ft d:=by
 have e:prd d=1*Ft d:=by
  unfold prd
  rw [iNo]
  exact pgo_of d 1 (by omega) (fun x hx=>⟨h1 x hx,by have:=mem_prodL d h1 x hx;omega⟩) (by omega)
 rw [e,Int.one_mul]
theorem sl_eq (p:List Int) (u m:Int) (hu:0≤u) (hm:0≤m):List.drop (Int.toNat u) (List.take (Int.toNat (u+m)) p)=List.take (Int.toNat m) (List.drop (Int.toNat u) p):=by
 rw [List.drop_take];congr 1;omega
theorem inI_take {p:List Int} (h:inI p) (m:Nat):inI (p.take m):=fun x hx=>h x (List.mem_of_mem_take hx)
theorem inI_drop {p:List Int} (h:inI p) (m:Nat):inI (p.drop m):=fun x hx=>h x (List.mem_of_mem_drop hx)
theorem leafM {T T':List Nd} {P L dd v:List Int} {i:Int} (h:f100 T (dd,v)=some (i,0,T')):f67 T 0 P L dd v=some (i,0,P,L,T'):=by
 unfold f67
 rw [nF rfl,cond_false,h,A9]
theorem doM {T T':List Nd} {P L:List Int} {op a b k i:Int} (h:f157 T op a b k=some (i,0,T')):f102 T 0 P L op a b k=some (i,0,P,L,T'):=by
 unfold f102
 rw [nF rfl,cond_false,h,A9]
theorem par0 (T:List Nd) (P L:List Int):f101 T 0 P L []=some (0,0,0,P,L,T):=by
 unfold f101
 have LL:Fp (fun go (x:Int×Int×Int×Int×List Int×List Int×List Nd)=>f101_l3 [] go x.1 x.2.1 x.2.2.1 x.2.2.2.1 x.2.2.2.2.1 x.2.2.2.2.2.1 x.2.2.2.2.2.2) Fq ((0:Int),(0:Int),(0:Int),(0:Int),P,L,T)=some ((0:Int),(0:Int),(0:Int),P,L,T):=lp0 (fun go=>by unfold f101_l3;rfl)
 rw [LL,A9]
theorem par_j {T T':List Nd} {P L:List Int} {ps:List (List Int)} {v:Nat} {e:List Int} {i:Int} (he:rd (Ty.z (.sl (.int .i64))) ps (v:Int)=e) (h1:∀ x ∈ e,1≤x) (hb:Ft e≤4096) (hl:e.length≤4) (hP:Ft e≤P.length)
  (h:f100 T (e,P.take (Ft e).toNat)=some (i,0,T')):f101_j4 ps (v:Int) 0 P L T=some (i,0,P,L,T'):=by
 have:=G8 e h1
 unfold f101_j4
 rw [he,mprod h1 (by omega) (by omega),A9,Bh,leafM h,A9]
theorem par1 {T T1:List Nd} {P L:List Int} {e:List Int} {i:Int} (h1:∀ x ∈ e,1≤x) (hb:Ft e≤4096) (hl:e.length≤4) (hP:Ft e≤P.length) (hL:L.length≤1000)
  (h:f100 T (e,P.take (Ft e).toNat)=some (i,0,T1)):f101 T 0 P L [e]=some (i,i,0,P.drop (Ft e).toNat,L++[i],T1):=by
 have hp:=G8 e h1
 unfold f101
 have g:(L.length+List.length [i])*8≤140737488355328:=by simp only [List.length_cons,List.length_nil];omega
 have LL:Fp (fun go (x:Int×Int×Int×Int×List Int×List Int×List Nd)=>f101_l3 [e] go x.1 x.2.1 x.2.2.1 x.2.2.2.1 x.2.2.2.2.1 x.2.2.2.2.2.1 x.2.2.2.2.2.2) Fq ((0:Int),(0:Int),(0:Int),(0:Int),P,L,T)=some (i,i,(0:Int),P.drop (Ft e).toNat,L++[i],T1):=
  lp1 (x1:=(i,i,(1:Int),(0:Int),P.drop (Ft e).toNat,L++[i],T1)) (fun go=>?_) (fun go=>?_)
 ·rw [LL,A9]
 ·have er:rd (Ty.z (.sl (.int .i64))) [e] (0:Int)=e:=rfl
  have ej:=par_j (ps:=[e]) (v:=0) (L:=L) er h1 hb hl hP h
  have ej2:f101_j4 [e] (0:Int) 0 P L T=some (i,0,P,L,T1):=ej
  unfold f101_l3
  simp only
  rw [dT (by simp),cond_true,Bh (by simp),ej2,A9,er,mprod h1 (by omega) (by omega),A9]
  simp only
  rw [Bh,Bh g,bT rfl,cond_true];rfl
 ·unfold f101_l3
  simp only
  rw [dF (by simp),cond_false]
theorem par2 {T T1 T2:List Nd} {P L:List Int} {e e':List Int} {i i':Int} (h1:∀ x ∈ e,1≤x) (hb:Ft e≤4096) (hl:e.length≤4) (h1':∀ x ∈ e',1≤x) (hb':Ft e'≤4096) (hl':e'.length≤4) (hP:Ft e+Ft e'≤P.length) (hL:L.length≤1000)
  (h:f100 T (e,P.take (Ft e).toNat)=some (i,0,T1)) (h':f100 T1 (e',(P.drop (Ft e).toNat).take (Ft e').toNat)=some (i',0,T2)) :
  f101 T 0 P L [e,e']=some (i,i',0,(P.drop (Ft e).toNat).drop (Ft e').toNat,L++[i]++[i'],T2):=by
 have hp:=G8 e h1
 have hp':=G8 e' h1'
 have hd:((P.drop (Ft e).toNat).length:Int)=P.length-Ft e:=by rw [List.length_drop];omega
 unfold f101
 have g:(L.length+List.length [i])*8≤140737488355328:=by simp only [List.length_cons,List.length_nil];omega
 have g':((L++[i]).length+List.length [i'])*8≤140737488355328:=by simp only [List.length_append,List.length_cons,List.length_nil];omega
 have LL:Fp (fun go (x:Int×Int×Int×Int×List Int×List Int×List Nd)=>f101_l3 [e,e'] go x.1 x.2.1 x.2.2.1 x.2.2.2.1 x.2.2.2.2.1 x.2.2.2.2.2.1 x.2.2.2.2.2.2) Fq ((0:Int),(0:Int),(0:Int),(0:Int),P,L,T)=some (i,i',(0:Int),(P.drop (Ft e).toNat).drop (Ft e').toNat,L++[i]++[i'],T2):=
  lp2 (x1:=(i,i,(1:Int),(0:Int),P.drop (Ft e).toNat,L++[i],T1)) (x2:=(i,i',(2:Int),(0:Int),(P.drop (Ft e).toNat).drop (Ft e').toNat,L++[i]++[i'],T2)) (fun go=>?_) (fun go=>?_) (fun go=>?_)
 ·rw [LL,A9]
 ·have er:rd (Ty.z (.sl (.int .i64))) [e,e'] (0:Int)=e:=rfl
  have ej:=par_j (ps:=[e,e']) (v:=0) (L:=L) er h1 hb hl (by omega) h
  have ej2:f101_j4 [e,e'] (0:Int) 0 P L T=some (i,0,P,L,T1):=ej
  unfold f101_l3
  simp only
  rw [dT (by simp),cond_true,Bh (by simp),ej2,A9,er,mprod h1 (by omega) (by omega),A9]
  simp only
  rw [Bh,Bh g,bT rfl,cond_true];rfl
 ·have er:rd (Ty.z (.sl (.int .i64))) [e,e'] (1:Int)=e':=rfl
  have ej:=par_j (ps:=[e,e']) (v:=1) (L:=L++[i]) er h1' hb' hl' (by omega) h'
  have ej2:f101_j4 [e,e'] (1:Int) 0 (P.drop (Ft e).toNat) (L++[i]) T1=some (i',0,P.drop (Ft e).toNat,L++[i],T2):=ej
  unfold f101_l3
  simp only
  rw [dT (by simp),cond_true,Bh (by simp),ej2,A9,er,mprod h1' (by omega) (by omega),A9]
  simp only
  rw [Bh,Bh g',bF (by omega),cond_false];rfl
 ·unfold f101_l3
  simp only
  rw [dF (by simp),cond_false]
theorem nx_ext {n:Nt} {k:Nat} {d d':List (List Int)} (h0:dm d k=dm d' k) (h1:dm d (k-1)=dm d' (k-1)):nx n k d=nx n k d':=by
 unfold nx;rw [h0,h1]
theorem wk_len {n:Nt}:∀ (m:Nat) (d:List (List Int)),wk n m=some d→d.length=m+1
 | 0,d,h=>by injection h with h;subst h;rfl
 | m+1,d,h=>by
  simp only [wk] at h
  cases hw:wk n m with
  | none=>rw [hw] at h;exact absurd h (by simp)
  | some d0=>
   rw [hw] at h
   simp only at h
   cases hn:nx n m d0 with
   | none=>rw [hn] at h;exact absurd h (by simp)
   | some o=>
    rw [hn] at h
    injection h with h;subst h
    have:=wk_len m d0 hw
    simp [this]
theorem wk_nx {n:Nt}:∀ (m:Nat) (d:List (List Int)),wk n m=some d→∀ k,k<m→nx n k d=some (dm d (k+1))
 | 0,d,h,k,hk=>absurd hk (Nat.not_lt_zero _)
 | m+1,d,h,k,hk=>by
  simp only [wk] at h
  cases hw:wk n m with
  | none=>rw [hw] at h;exact absurd h (by simp)
  | some d0=>
   rw [hw] at h
   simp only at h
   cases hn:nx n m d0 with
   | none=>rw [hn] at h;exact absurd h (by simp)
   | some o=>
    rw [hn] at h
    injection h with h;subst h
    have hl:=wk_len m d0 hw
    rw [nx_ext (d':=d0) (dm_app _ _ _ (by omega)) (dm_app _ _ _ (by omega))]
    by_cases e:k=m
    ·subst e
     have:=dm_last d0 o
     rw [hl] at this
     rw [hn,this]
    ·rw [dm_app _ _ _ (by omega)]
     exact wk_nx m d0 hw k (by omega)
structure RN (n:Nt) (d:List (List Int)) (p:List Int):Prop where
 nN:n.2.length≤12
 ng:gok n=true
 nw:wk n n.2.length=some d
 nb:bad n d=false
 np:(p.length:Int)=mny n d n.2.length
 ni:inI p
section
variable {n:Nt} {d:List (List Int)} {p:List Int} (R:RN n d p)
include R
theorem RN.W:WF n n.2.length d:=wk_wf R.ng _ _ (Nat.le_refl _) R.nw
theorem RN.fine:∀ k,k≤n.2.length→gr n d k=false
 | k,hk=>by
  have h:=R.nb
  unfold bad at h
  simp only [Bool.or_eq_false_iff] at h
  have hg:=h.1.1
  have:∀ j,gr n d (k+j)=false→gr n d k=false:=fun j=>by
   induction j with
   | zero=>exact id
   | succ j ih=>
    intro hh
    simp only [← Nat.add_assoc,gr,Bool.or_eq_false_iff] at hh
    exact ih hh.1.1
  exact this (n.2.length-k) (by rw [show k+(n.2.length-k)=n.2.length by omega];exact hg)
theorem RN.small (k:Nat) (hk:k<n.2.length):pc (ly n k) (dm d k)≤4096∧Ft (dm d (k+1))≤4096:=by
 have h:=R.fine (k+1) hk
 simp only [gr,Bool.or_eq_false_iff,decide_eq_false_iff_not] at h
 omega
theorem RN.in0:Ft n.1≤4096:=by
 have h:=R.nb
 unfold bad at h
 simp only [Bool.or_eq_false_iff,decide_eq_false_iff_not] at h
 omega
theorem RN.few:p.length≤4096:=by
 have h:=R.nb
 have e:=R.np
 unfold bad at h
 simp only [Bool.or_eq_false_iff,decide_eq_false_iff_not] at h
 omega
theorem RN.mono:∀ k,k≤n.2.length→mny n d k≤p.length:=fun k hk=>by
 rw [R.np]
 have hN:=R.nN
 have:∀ j,k+j≤n.2.length→mny n d k≤mny n d (k+j):=fun j=>by
  induction j with
  | zero=>exact fun _=>Int.le_refl _
  | succ j ih=>
   intro hh
   have h1:=ih (by omega)
   have hp:=pc_in ((Kc R.ng).2 (k+j) (by omega)) (R.W.wD (k+j) (by omega)) (R.W.fC (k+j) (by omega))
   have e:mny n d (k+(j+1))=mny n d (k+j)+pt (ly n (k+j)) (dm d (k+j)):=rfl
   omega
 have h:=this (n.2.length-k) (by omega)
 rw [show k+(n.2.length-k)=n.2.length by omega] at h
 exact h
theorem RN.pos (k:Nat) (hk:k≤n.2.length):0≤mny n d k:=(mny_in R.ng (by have:=R.nN;omega) R.W k hk).1
theorem RN.nxt (k:Nat) (hk:k<n.2.length):nx n k d=some (dm d (k+1)):=wk_nx _ _ R.nw k hk
theorem RN.len1:∀ k,k≤n.2.length→1≤(dm d k).length
 | 0,_=>by
  rw [R.W.w0]
  have h:=R.ng
  unfold gok at h
  cases hf:(fbad n).isSome
  ·rw [hf,cond_false] at h
   unfold iok at h
   by_cases e1:n.1.length=1
   ·omega
   ·rw [dF e1,cond_false] at h
    by_cases e2:n.1.length=2
    ·omega
    ·rw [dF e2] at h;exact absurd h (by simp)
  ·rw [hf] at h;exact absurd h (by simp)
 | k+1,hk=>by
  have ih:=RN.len1 k (by omega)
  have h:=R.nxt k hk
  unfold nx at h
  cases h1:kd Gc (ly n k)
  ·rw [h1,cond_false] at h
   cases h2:kd G5 (ly n k)
   ·rw [h2,cond_false] at h
    cases h3:kd Jx (ly n k)
    ·rw [h3,cond_false] at h
     cases h4:kd bSk (ly n k)
     ·rw [h4,cond_false] at h;injection h with h;rw [← h];exact ih
     ·rw [h4,cond_true] at h
      split at h
      ·injection h with h;rw [← h];exact ih
      ·exact absurd h (by simp)
    ·rw [h3,cond_true] at h
     split at h
     ·injection h with h;rw [← h];simp
     ·exact absurd h (by simp)
   ·rw [h2,cond_true] at h
    split at h
    ·injection h with h;rw [← h];simp
    ·exact absurd h (by simp)
  ·rw [h1,cond_true] at h;injection h with h;rw [← h];simp
end
structure RV (n:Nt) (d:List (List Int)) (k:Nat) (T:List Nd) (last frm:Nat) (L:List Int):Prop where
 vG:PL T
 vT:T.length≤1+6*k
 vl:last<T.length
 vd:(nd T last).1=dm d k
 vf:frm<T.length
 vp:1≤k→(nd T frm).1=dm d (k-1)
 vs:L.length≤2*k∧∀ x ∈ L,0≤x∧x<(T.length:Int)
def Lays (n:Nt) (d:List (List Int)) (p:List Int) (k:Nat) (T:List Nd) (last frm:Nat) (L:List Int):Prop:=
 ∃ (out:Nat) (T':List Nd) (L':List Int),f68 T 0 (p.drop (mny n d k).toNat) L (ly n k) (dm d k) (last:Int) (frm:Int)=some ((out:Int),0,p.drop (mny n d (k+1)).toNat,L',T')∧
  f40_j64 n p (frm:Int) (last:Int) (mny n d k) (k:Int) L T=some (0,mny n d (k+1),(out:Int),L',T')∧RV n d (k+1) T' out last L'
theorem rv_push {n:Nt} {d:List (List Int)} {k:Nat} {T:List Nd} {last frm:Nat} {L:List Int} (V:RV n d k T last frm L) (m:Nd) (hm:m.2.2.2.2.1=dm d (k+1)) (hG:PL (T++[m])):RV n d (k+1) (T++[m]) T.length last L:=by
 have h1:=V.vT
 have h2:=V.vl
 have h3:=V.vs.1
 exact ⟨hG,by simp only [List.length_append,List.length_cons,List.length_nil];omega,by simp,by rw [Kz];exact hm,by simp only [List.length_append,List.length_cons,List.length_nil];omega,fun _=>by rw [Ld _ _ _ h2];exact V.vd,by omega,fun x hx=>by have:=V.vs.2 x hx;simp only [List.length_append,List.length_cons,List.length_nil];omega⟩
section
variable {n:Nt} {d:List (List Int)} {p:List Int} (R:RN n d p) {k:Nat} (hk:k<n.2.length) {T:List Nd} {last frm:Nat} {L:List Int} (V:RV n d k T last frm L)
include R hk V
theorem RV.room:T.length+8<512:=by have:=V.vT;have:=R.nN;omega
theorem par_no (h1:kd Gc (ly n k)=false) (h2:kd G5 (ly n k)=false):f98 ((ly n k).1,(ly n k).2.1,(ly n k).2.2) (dm d k)=some []∧mny n d (k+1)=mny n d k:=by
 constructor
 ·unfold f98
  show (bif kd Gc (ly n k) then _ else bif kd G5 (ly n k) then _ else _)=_
  rw [h1,h2];rfl
 ·simp only [mny]
  unfold pt
  rw [h1,h2]
  simp only [cond_false];omega
theorem lay_bend (h4:kd bBn (ly n k)=true):Lays n d p k T last frm L:=by
 have h1:=kd_ne h4 (b:=Gc) (by kernel_rfl)
 have h2:=kd_ne h4 (b:=G5) (by kernel_rfl)
 have h3:=kd_ne h4 (b:=Jx) (by kernel_rfl)
 have h5:=kd_ne h4 (b:=bSk) (by kernel_rfl)
 obtain ⟨ep,em⟩:=par_no R hk V h1 h2
 have hr:=RV.room R hk V
 have hl:=(Kc R.ng).2 k hk
 have hA:1≤(ly n k).2.1∧(ly n k).2.1≤5:=by
  unfold lok at hl;rw [h1,h2,h3,h4] at hl;simp only [cond_false,cond_true] at hl;exact (of_decide_eq_true hl).1
 have hn:=R.nxt k hk
 unfold nx at hn
 rw [h1,h2,h3,h5] at hn
 simp only [cond_false] at hn
 injection hn with hn
 obtain ⟨m,e1,e2,e3,e4⟩:=push_bend (by omega) V.vG V.vl (ly n k).2.1 hA.1 hA.2
 refine ⟨T.length,T++[m],L,?_,?_,rv_push V m (by rw [e3,V.vd];exact hn) e4⟩
 ·unfold f68
  rw [ep,A9,par0,A9]
  show (bif kd Gc (ly n k) then _ else bif kd G5 (ly n k) then _ else bif kd Jx (ly n k) then _ else bif kd bBn (ly n k) then _ else _)=_
  rw [h1,h2,h3,h4,em]
  simp only [cond_false,cond_true]
  rw [doM e1,A9]
 ·unfold f40_j64
  show (bif kd Gc (ly n k) then _ else bif kd G5 (ly n k) then _ else bif kd Jx (ly n k) then _ else bif kd bBn (ly n k) then D4 (f78 T 11 (last:Int) (-1) (ly n k).2.1) _ else _)=_
  rw [h1,h2,h3,h4,em]
  simp only [cond_false,cond_true]
  rw [e2,A9]
theorem lay_pool (h3:kd Jx (ly n k)=true):Lays n d p k T last frm L:=by
 have h1:=kd_ne h3 (b:=Gc) (by kernel_rfl)
 have h2:=kd_ne h3 (b:=G5) (by kernel_rfl)
 obtain ⟨ep,em⟩:=par_no R hk V h1 h2
 have hr:=RV.room R hk V
 have hA:=lokP ((Kc R.ng).2 k hk) h3
 have hn:=R.nxt k hk
 unfold nx at hn
 rw [h1,h2,h3] at hn
 simp only [cond_false,cond_true] at hn
 split at hn
 ·rename_i hc
  injection hn with hn
  have e2':=two_of hc.1
  obtain ⟨m,e1,e2,e3,e4⟩:=push_pool (by omega) V.vG V.vl (rd (0:Int) (dm d k) 0) (rd (0:Int) (dm d k) 1) (ly n k).2.1 (by rw [V.vd];exact e2') hA.1 hc.2
  refine ⟨T.length,T++[m],L,?_,?_,rv_push V m (by rw [e3];exact hn) e4⟩
  ·unfold f68
   rw [ep,A9,par0,A9]
   show (bif kd Gc (ly n k) then _ else bif kd G5 (ly n k) then _ else bif kd Jx (ly n k) then _ else _)=_
   rw [h1,h2,h3,em]
   simp only [cond_false,cond_true]
   rw [doM e1,A9]
  ·unfold f40_j64
   show (bif kd Gc (ly n k) then _ else bif kd G5 (ly n k) then _ else bif kd Jx (ly n k) then D4 (f78 T 13 (last:Int) (-1) (ly n k).2.1) _ else _)=_
   rw [h1,h2,h3,em]
   simp only [cond_false,cond_true]
   rw [e2,A9]
 ·exact absurd hn (by simp)
theorem lay_skip (h1:kd Gc (ly n k)=false) (h2:kd G5 (ly n k)=false) (h3:kd Jx (ly n k)=false) (h4:kd bBn (ly n k)=false):Lays n d p k T last frm L:=by
 obtain ⟨ep,em⟩:=par_no R hk V h1 h2
 have hr:=RV.room R hk V
 have hl:=(Kc R.ng).2 k hk
 have h5:kd bSk (ly n k)=true:=by
  unfold lok at hl;rw [h1,h2,h3,h4] at hl
  cases h:kd bSk (ly n k)
  ·rw [h] at hl;exact absurd hl (by simp)
  ·rfl
 have hn:=R.nxt k hk
 unfold nx at hn
 rw [h1,h2,h3,h5] at hn
 simp only [cond_false,cond_true] at hn
 split at hn
 ·rename_i hc
  injection hn with hn
  obtain ⟨m,e1,e2,e3,e4⟩:=push_add (by omega) V.vG V.vf V.vl (by rw [V.vp (by omega),V.vd];exact hc.2.2)
  refine ⟨T.length,T++[m],L,?_,?_,rv_push V m (by rw [e3,V.vp (by omega),hc.2.2];exact hn) e4⟩
  ·unfold f68
   rw [ep,A9,par0,A9]
   show (bif kd Gc (ly n k) then _ else bif kd G5 (ly n k) then _ else bif kd Jx (ly n k) then _ else bif kd bBn (ly n k) then _ else _)=_
   rw [h1,h2,h3,h4,em]
   simp only [cond_false]
   rw [doM e1,A9]
  ·unfold f40_j64
   show (bif kd Gc (ly n k) then _ else bif kd G5 (ly n k) then _ else bif kd Jx (ly n k) then _ else bif kd bBn (ly n k) then _ else _)=_
   rw [h1,h2,h3,h4,em]
   simp only [cond_false]
   rw [e2,A9]
 ·exact absurd hn (by simp)
theorem lay_conv (h2:kd G5 (ly n k)=true):Lays n d p k T last frm L:=by
 have h1:=kd_ne h2 (b:=Gc) (by kernel_rfl)
 have hr:=RV.room R hk V
 have hs:=V.vs.1
 have hN:=R.nN
 obtain ⟨⟨p1,p2⟩,p3,p4⟩:=lokC ((Kc R.ng).2 k hk) h2
 have hn:=R.nxt k hk
 unfold nx at hn
 rw [h1,h2] at hn
 simp only [cond_false,cond_true] at hn
 split at hn
 ·rename_i hc
  injection hn with hn
  have D:=R.W.wD k (by omega)
  have e2':=two_of hc.1
  obtain ⟨b0,b1⟩:=dd_rd D 0 (by omega)
  have b0':1≤rd (0:Int) (dm d k) 0:=b0
  have b1':rd (0:Int) (dm d k) 0≤1024:=b1
  obtain ⟨s1,s2⟩:=R.small k hk
  have epc:pc (ly n k) (dm d k)=(ly n k).2.1*rd (0:Int) (dm d k) 0*(ly n k).2.2:=by unfold pc;rw [h1,h2];rfl
  have ept:mny n d (k+1)=mny n d k+(ly n k).2.1*rd (0:Int) (dm d k) 0*(ly n k).2.2:=by simp only [mny];unfold pt;rw [h1,h2];rfl
  obtain ⟨m1,m2⟩:=Ln p1 p2 b0' b1'
  obtain ⟨m3,m4⟩:=Ln m1 m2 p3 p4
  have q0:=R.pos k (by omega)
  have q1:=R.mono (k+1) hk
  have qf:=R.few
  have hp:∀ x ∈ [(ly n k).2.1,rd (0:Int) (dm d k) 0,(ly n k).2.2],1≤x:=fun x hx=>by
   simp only [List.mem_cons,List.mem_nil_iff,or_false] at hx
   rcases hx with rfl | rfl | rfl <;> omega
  have eP:Ft [(ly n k).2.1,rd (0:Int) (dm d k) 0,(ly n k).2.2]=(ly n k).2.1*rd (0:Int) (dm d k) 0*(ly n k).2.2:=by simp only [Ft,Int.mul_one];rw [Int.mul_assoc]
  rw [epc] at s1
  have epr:=prd_of hp (by simp) (by rw [eP];exact s1)
  rw [eP] at epr
  have hlen:((p.drop (mny n d k).toNat).length:Int)=p.length-mny n d k:=by rw [List.length_drop];omega
  have gx:F4 (([(ly n k).2.1,rd (0:Int) (dm d k) 0,(ly n k).2.2],(p.drop (mny n d k).toNat).take ((ly n k).2.1*rd (0:Int) (dm d k) 0*(ly n k).2.2).toNat):Tn):=
   ⟨G0 (by simp only;omega) (by simp only;rw [epr,List.length_take];omega),inI_take (inI_drop R.ni _) _⟩
  obtain ⟨w,a1,a2,a3,a4⟩:=push_leaf T _ (by omega) V.vG gx
  have hG1:=V.vl
  have hmul:(ly n k).2.1*(rd (0:Int) (dm d k) 1-(ly n k).2.2+1)≤4096:=by
   rw [← hn] at s2
   simpa only [Ft,Int.mul_one] using s2
  obtain ⟨m,e1,e2,e3,e4⟩:=push_row (l:=T++[w]) (by simp;omega) a4 (A:=last) (B:=T.length) (by simp;omega) (by simp) (rd (0:Int) (dm d k) 0) (rd (0:Int) (dm d k) 1) (ly n k).2.1 (ly n k).2.2
   (by rw [Ld _ _ _ V.vl,V.vd];exact e2') (by rw [Kz];exact a3) p3 hc.2 p1 hmul
  have elen:(T++[w]).length=T.length+1:=by simp
  rw [elen] at e1 e2
  refine ⟨T.length+1,T++[w]++[m],L++[(T.length:Int)],?_,?_,⟨e4,by have:=V.vT;simp only [List.length_append,List.length_cons,List.length_nil];omega,by simp,by have:=Kz (T++[w]) m;rw [elen] at this;rw [this,e3];exact hn,by simp;omega,fun _=>by rw [Ld _ _ _ (by simp;omega),Ld _ _ _ V.vl];exact V.vd,by simp;omega,fun x hx=>by
   simp only [List.length_append,List.length_cons,List.length_nil]
   rcases List.mem_append.1 hx with hx | hx
   ·have:=V.vs.2 x hx;omega
   ·obtain rfl:=List.mem_singleton.1 hx;omega⟩⟩
  ·have epar:f98 ((ly n k).1,(ly n k).2.1,(ly n k).2.2) (dm d k)=some [[(ly n k).2.1,rd (0:Int) (dm d k) 0,(ly n k).2.2]]:=by
    unfold f98
    show (bif kd Gc (ly n k) then _ else bif kd G5 (ly n k) then _ else _)=_
    rw [h1,h2]
    simp only [cond_false,cond_true]
    rw [Bh]
   have e:=par1 (T:=T) (T1:=T++[w]) (P:=p.drop (mny n d k).toNat) (L:=L) (e:=[(ly n k).2.1,rd (0:Int) (dm d k) 0,(ly n k).2.2]) (i:=(T.length:Int)) hp (by rw [eP];exact s1) (by simp) (by rw [eP];omega) (by omega) (by rw [eP];exact a1)
   rw [eP] at e
   have edrop:(p.drop (mny n d k).toNat).drop ((ly n k).2.1*rd (0:Int) (dm d k) 0*(ly n k).2.2).toNat=p.drop (mny n d (k+1)).toNat:=by
    rw [List.drop_drop,ept];congr 1;omega
   rw [edrop] at e
   unfold f68
   rw [epar,A9,e,A9]
   show (bif kd Gc (ly n k) then _ else bif kd G5 (ly n k) then _ else _)=_
   rw [h1,h2]
   simp only [cond_false,cond_true]
   rw [doM e1,A9]
  ·have eT:(rd (Ty.z (.p (.int .i64) (.p (.int .i64) (.p (.int .i64) (.p (.int .i64) (.p (.sl (.int .i64)) (.sl (.int .i64)))))))) T (last:Int)).2.2.2.2.1=dm d k:=V.vd
   have sl:=sl_eq p (mny n d k) ((ly n k).2.1*rd (0:Int) (dm d k) 0*(ly n k).2.2) q0 (by omega)
   have g3:(L.length+List.length [(T.length:Int)])*8≤140737488355328:=by simp only [List.length_cons,List.length_nil];omega
   unfold f40_j64
   rw [eT]
   show (bif kd Gc (ly n k) then _ else bif kd G5 (ly n k) then Ey _ (Ey _ (Ey (0≤mny n d k∧mny n d k≤IntKind.i64.wrap (mny n d k+IntKind.i64.wrap (IntKind.i64.wrap ((ly n k).2.1*rd (0:Int) (dm d k) 0)*(ly n k).2.2))∧IntKind.i64.wrap (mny n d k+IntKind.i64.wrap (IntKind.i64.wrap ((ly n k).2.1*rd (0:Int) (dm d k) 0)*(ly n k).2.2))≤(p.length:Int))
    (D4 (f77 T ([(ly n k).2.1,rd (0:Int) (dm d k) 0,(ly n k).2.2],List.drop (Int.toNat (mny n d k)) (List.take (Int.toNat (IntKind.i64.wrap (mny n d k+IntKind.i64.wrap (IntKind.i64.wrap ((ly n k).2.1*rd (0:Int) (dm d k) 0)*(ly n k).2.2)))) p))) fun q39_16=>D4 (f40_j72 (last:Int) q39_16) fun z178=>Ey _ (some (z178.1,IntKind.i64.wrap (mny n d k+IntKind.i64.wrap (IntKind.i64.wrap ((ly n k).2.1*rd (0:Int) (dm d k) 0)*(ly n k).2.2)),z178.2.1,L++[q39_16.1],z178.2.2))))) else _)=_
   rw [h1,h2]
   simp only [cond_false,cond_true]
   rw [E9 (n:=(ly n k).2.1*rd (0:Int) (dm d k) 0) (by omega) (by omega),E9 (n:=(ly n k).2.1*rd (0:Int) (dm d k) 0*(ly n k).2.2) (by omega) (by omega),E9 (n:=mny n d k+(ly n k).2.1*rd (0:Int) (dm d k) 0*(ly n k).2.2) (by omega) (by omega),
    Bh,Bh,Bh,sl,a2,A9]
   have ej:f40_j72 (last:Int) ((T.length:Int),(0:Int),T++[w])=some (0,((T.length+1:Nat):Int),T++[w]++[m]):=by
    unfold f40_j72
    simp only
    rw [bT rfl,cond_true,e2,A9]
   rw [ej,A9,Bh g3,ept]
 ·exact absurd hn (by simp)
end
section
variable {n:Nt} {d:List (List Int)} {p:List Int} (R:RN n d p) {k:Nat} (hk:k<n.2.length) {T:List Nd} {last frm:Nat} {L:List Int} (V:RV n d k T last frm L)
include R hk V
theorem dense_in {T2:List Nd} (h2:T2.length≤T.length+2) (G2:PL T2) (hl:last<T2.length) (hd:(nd T2 last).1=dm d k) (P L2:List Int) (i1 i2:Int) :
  ∃ (X:Nat) (T3:List Nd),f68_j1 (dm d k) (last:Int) (i1,i2,0,P,L2,T2)=some ((X:Int),0,P,L2,T3)∧
   f40_j67 (last:Int) T (0,i2,T2)=some (0,(X:Int),T3)∧PL T3∧T3.length≤T2.length+1∧X<T3.length∧(nd T3 X).1=[Ft (dm d k)]∧(∀ i,i<T2.length→i<T3.length∧nd T3 i=nd T2 i):=by
 have hr:=RV.room R hk V
 have D:=R.W.wD k (by omega)
 have D1:=R.len1 k (by omega)
 have eT:(rd (Ty.z (.p (.int .i64) (.p (.int .i64) (.p (.int .i64) (.p (.int .i64) (.p (.sl (.int .i64)) (.sl (.int .i64)))))))) T (last:Int)).2.2.2.2.1=dm d k:=V.vd
 unfold f68_j1 f40_j67 f40_j68
 rw [eT]
 by_cases e:(dm d k).length=2
 ·obtain ⟨m,e1,e2,e3,e4⟩:=push_shape (by omega) G2 hl
  refine ⟨T2.length,T2++[m],?_,?_,e4,by simp,by simp,by rw [Kz,e3,hd],fun i hi=>⟨by simp;omega,Ld _ _ _ hi⟩⟩
  ·rw [bT (by omega),cond_true,doM e1,A9]
  ·simp only
   rw [bT rfl,cond_true,A9,bT (by omega),cond_true,e2,A9]
 ·refine ⟨last,T2,?_,?_,G2,by omega,hl,?_,fun i hi=>⟨hi,rfl⟩⟩
  ·rw [bF (by omega),cond_false]
  ·simp only
   rw [bT rfl,cond_true,A9,bF (by omega),cond_false]
  ·rw [hd]
   have hl2:=D.1
   match h:dm d k,D1,e,hl2 with
   | [x],_,_,_=>simp only [Ft,Int.mul_one]
   | [x,y],_,e,_=>exact absurd rfl e
theorem lay_dense (h1:kd Gc (ly n k)=true):Lays n d p k T last frm L:=by
 have hr:=RV.room R hk V
 have hs:=V.vs.1
 have hN:=R.nN
 have qf:=R.few
 obtain ⟨p1,p2⟩:=lokD ((Kc R.ng).2 k hk) h1
 have hn:=R.nxt k hk
 unfold nx at hn
 rw [h1,cond_true] at hn
 injection hn with hn
 have D:=R.W.wD k (by omega)
 obtain ⟨b0,b1⟩:=dd_prod D
 obtain ⟨s1,s2⟩:=R.small k hk
 have epc:pc (ly n k) (dm d k)=(ly n k).2.1*Ft (dm d k):=by unfold pc;rw [h1];rfl
 have ept:mny n d (k+1)=mny n d k+((ly n k).2.1*Ft (dm d k)+(ly n k).2.1):=by simp only [mny];unfold pt;rw [h1];rfl
 obtain ⟨m1,m2⟩:=Ln p1 p2 b0 b1
 have q0:=R.pos k (by omega)
 have q1:=R.mono (k+1) hk
 rw [epc] at s1
 have hp:∀ x ∈ [(ly n k).2.1,Ft (dm d k)],1≤x:=fun x hx=>by
  simp only [List.mem_cons,List.mem_nil_iff,or_false] at hx
  rcases hx with rfl | rfl <;> omega
 have hp1:∀ x ∈ [(ly n k).2.1],1≤x:=fun x hx=>by rw [List.mem_singleton.1 hx];omega
 have eP:Ft [(ly n k).2.1,Ft (dm d k)]=(ly n k).2.1*Ft (dm d k):=by simp only [Ft,Int.mul_one]
 have eP1:Ft [(ly n k).2.1]=(ly n k).2.1:=by simp only [Ft,Int.mul_one]
 have epr:=prd_of hp (by simp) (by rw [eP];exact s1)
 have epr1:=prd_of hp1 (by simp) (by rw [eP1];omega)
 rw [eP] at epr
 rw [eP1] at epr1
 have hlen:((p.drop (mny n d k).toNat).length:Int)=p.length-mny n d k:=by rw [List.length_drop];omega
 have hlen1:(((p.drop (mny n d k).toNat).drop ((ly n k).2.1*Ft (dm d k)).toNat).length:Int)=p.length-mny n d k-(ly n k).2.1*Ft (dm d k):=by rw [List.length_drop];omega
 have gx:F4 (([(ly n k).2.1,Ft (dm d k)],(p.drop (mny n d k).toNat).take ((ly n k).2.1*Ft (dm d k)).toNat):Tn):=
  ⟨G0 (by simp only;omega) (by simp only;rw [epr,List.length_take];omega),inI_take (inI_drop R.ni _) _⟩
 have gy:F4 (([(ly n k).2.1],((p.drop (mny n d k).toNat).drop ((ly n k).2.1*Ft (dm d k)).toNat).take ((ly n k).2.1).toNat):Tn):=
  ⟨G0 (by simp only;omega) (by simp only;rw [epr1,List.length_take];omega),inI_take (inI_drop (inI_drop R.ni _) _) _⟩
 obtain ⟨w,a1,a2,a3,a4⟩:=push_leaf T _ (by omega) V.vG gx
 have l1:(T++[w]).length=T.length+1:=by simp
 obtain ⟨v,c1,c2,c3,c4⟩:=push_leaf (T++[w]) _ (by omega) a4 gy
 rw [l1] at c1 c2
 have l2:(T++[w]++[v]).length=T.length+2:=by simp
 have hl2:last<(T++[w]++[v]).length:=by have:=V.vl;omega
 have hd2:(nd (T++[w]++[v]) last).1=dm d k:=by rw [Ld _ _ _ (by have:=V.vl;omega),Ld _ _ _ V.vl];exact V.vd
 obtain ⟨X,T3,x1,x2,x3,x4,x5,x6,x7⟩:=dense_in R hk V (T2:=T++[w]++[v]) (by omega) c4 hl2 hd2 (p.drop (mny n d (k+1)).toNat) (L++[(T.length:Int)]++[((T.length+1:Nat):Int)]) (T.length:Int) ((T.length+1:Nat):Int)
 obtain ⟨y1,y2⟩:=x7 T.length (by omega)
 obtain ⟨z1,z2⟩:=x7 (T.length+1) (by omega)
 have ew:(nd T3 T.length).1=[(ly n k).2.1,Ft (dm d k)]:=by rw [y2,Ld _ _ _ (by omega),Kz];exact a3
 have ev:(nd T3 (T.length+1)).1=[(ly n k).2.1]:=by have:=Kz (T++[w]) v;rw [l1] at this;rw [z2,this];exact c3
 obtain ⟨u4,f1,f2,f3,f4⟩:=push_mul (l:=T3) (by omega) x3 (A:=T.length) (B:=X) y1 x5 (ly n k).2.1 (Ft (dm d k)) ew x6
 have l4:(T3++[u4]).length=T3.length+1:=by simp
 obtain ⟨u5,g1,g2,g3,g4⟩:=push_sum (l:=T3++[u4]) (by omega) f4 (A:=T3.length) (by omega) (ly n k).2.1 (Ft (dm d k)) (by rw [Kz];exact f3)
 rw [l4] at g1 g2
 have l5:(T3++[u4]++[u5]).length=T3.length+2:=by simp
 have e5:(nd (T3++[u4]++[u5]) (T3.length+1)).1=[(ly n k).2.1]:=by have:=Kz (T3++[u4]) u5;rw [l4] at this;rw [this];exact g3
 have e6:(nd (T3++[u4]++[u5]) (T.length+1)).1=[(ly n k).2.1]:=by rw [Ld _ _ _ (by omega),Ld _ _ _ z1];exact ev
 obtain ⟨u6,i1,i2,i3,i4⟩:=push_add (l:=T3++[u4]++[u5]) (by omega) g4 (A:=T3.length+1) (B:=T.length+1) (by omega) (by omega) (by rw [e5,e6])
 rw [l5] at i1 i2
 have l6:(T3++[u4]++[u5]++[u6]).length=T3.length+3:=by simp
 have hV:=V.vT
 obtain ⟨t1,t2⟩:=x7 last hl2
 refine ⟨T3.length+2,T3++[u4]++[u5]++[u6],L++[(T.length:Int)]++[((T.length+1:Nat):Int)],?_,?_,⟨i4,by omega,by omega,?_,by omega,fun _=>?_,by simp;omega,fun x hx=>by
  rcases List.mem_append.1 hx with hx | hx
  ·rcases List.mem_append.1 hx with hx | hx
   ·have:=V.vs.2 x hx;omega
   ·obtain rfl:=List.mem_singleton.1 hx;omega
  ·obtain rfl:=List.mem_singleton.1 hx;omega⟩⟩
 ·have epar:f98 ((ly n k).1,(ly n k).2.1,(ly n k).2.2) (dm d k)=some [[(ly n k).2.1,Ft (dm d k)],[(ly n k).2.1]]:=by
   unfold f98
   show (bif kd Gc (ly n k) then _ else _)=_
   rw [h1,cond_true,mprod (dd_pos D) (by omega) (by have:=D.1;omega),A9]
  have e:=par2 (T:=T) (T1:=T++[w]) (T2:=T++[w]++[v]) (P:=p.drop (mny n d k).toNat) (L:=L) (e:=[(ly n k).2.1,Ft (dm d k)]) (e':=[(ly n k).2.1]) (i:=(T.length:Int)) (i':=((T.length+1:Nat):Int)) hp (by rw [eP];exact s1) (by simp) hp1 (by rw [eP1];omega) (by simp) (by rw [eP,eP1];omega) (by omega) (by rw [eP];exact a1) (by rw [eP,eP1];exact c1)
  rw [eP,eP1] at e
  have edrop:((p.drop (mny n d k).toNat).drop ((ly n k).2.1*Ft (dm d k)).toNat).drop ((ly n k).2.1).toNat=p.drop (mny n d (k+1)).toNat:=by
   rw [List.drop_drop,List.drop_drop,ept];congr 1;omega
  rw [edrop] at e
  unfold f68
  rw [epar,A9,e,A9]
  show (bif kd Gc (ly n k) then _ else _)=_
  rw [h1,cond_true,x1,A9]
  simp only
  rw [doM f1,A9]
  simp only
  rw [doM g1,A9]
  simp only
  have i1':f157 (T3++[u4]++[u5]) 2 ((T3.length+1:Nat):Int) ((T.length+1:Nat):Int) 0=some (((T3.length+2:Nat):Int),0,T3++[u4]++[u5]++[u6]):=i1
  rw [doM i1',A9]
 ·have eT:(rd (Ty.z (.p (.int .i64) (.p (.int .i64) (.p (.int .i64) (.p (.int .i64) (.p (.sl (.int .i64)) (.sl (.int .i64)))))))) T (last:Int)).2.2.2.2.1=dm d k:=V.vd
  have sl:=sl_eq p (mny n d k) ((ly n k).2.1*Ft (dm d k)) q0 (by omega)
  have sl2:=sl_eq p (mny n d k+(ly n k).2.1*Ft (dm d k)) (ly n k).2.1 (by omega) (by omega)
  have ed:List.drop (Int.toNat (mny n d k+(ly n k).2.1*Ft (dm d k))) p=(p.drop (mny n d k).toNat).drop ((ly n k).2.1*Ft (dm d k)).toNat:=by rw [List.drop_drop];congr 1;omega
  rw [ed] at sl2
  have g3:(L.length+List.length [(T.length:Int),((T.length+1:Nat):Int)])*8≤140737488355328:=by simp only [List.length_cons,List.length_nil];omega
  have w1:IntKind.i64.wrap ((ly n k).2.1*Ft (dm d k))=(ly n k).2.1*Ft (dm d k):=E9 (by omega) (by omega)
  have w2:IntKind.i64.wrap (mny n d k+(ly n k).2.1*Ft (dm d k))=mny n d k+(ly n k).2.1*Ft (dm d k):=E9 (by omega) (by omega)
  have w3:IntKind.i64.wrap (mny n d k+(ly n k).2.1*Ft (dm d k)+(ly n k).2.1)=mny n d k+(ly n k).2.1*Ft (dm d k)+(ly n k).2.1:=E9 (by omega) (by omega)
  have hly:rd (Ty.z (.p .str (.p (.int .i64) (.int .i64)))) n.2 (k:Int)=ly n k:=rfl
  have j65:f40_j65 n p (mny n d k) (k:Int) (Ft (dm d k)) ((T.length:Int),(0:Int),T++[w])=some (0,((T.length+1:Nat):Int),T++[w]++[v]):=by
   unfold f40_j65
   simp only
   rw [hly,w1,w2,w3,bT rfl,cond_true,Bh,sl2,c2,A9]
  have j69:f40_j69 ((T.length:Int),(0:Int),T++[w]) (0,(X:Int),T3)=some (0,(T3.length:Int),T3++[u4]):=by
   unfold f40_j69
   simp only
   rw [bT rfl,cond_true,f2,A9]
  have j70:f40_j70 (0,(T3.length:Int),T3++[u4])=some (0,((T3.length+1:Nat):Int),T3++[u4]++[u5]):=by
   unfold f40_j70
   simp only
   rw [bT rfl,cond_true,g2,A9]
  have j71:f40_j71 (0,((T.length+1:Nat):Int),T++[w]++[v]) (0,((T3.length+1:Nat):Int),T3++[u4]++[u5])=some (0,((T3.length+2:Nat):Int),T3++[u4]++[u5]++[u6]):=by
   unfold f40_j71
   simp only
   rw [bT rfl,cond_true,i2,A9]
  unfold f40_j64
  rw [eT,hly]
  show (bif kd Gc (ly n k) then _ else _)=_
  rw [h1,cond_true,rpro (dd_pos D) (by omega) (by have:=D.1;omega),A9,w1,w2,w3,Bh,sl,a2,A9,j65,A9,x2,A9,j69,A9,j70,A9,j71,A9]
  simp only
  rw [Bh g3,ept,Int.add_assoc]
  simp
 ·have:=Kz (T3++[u4]++[u5]) u6
  rw [l5] at this
  rw [this,i3,e5];exact hn
 ·rw [Ld _ _ _ (by omega),Ld _ _ _ (by omega),Ld _ _ _ t1,t2];exact hd2
theorem lay_all:Lays n d p k T last frm L:=by
 cases h1:kd Gc (ly n k)
 ·cases h2:kd G5 (ly n k)
  ·cases h3:kd Jx (ly n k)
   ·cases h4:kd bBn (ly n k)
    ·exact lay_skip R hk V h1 h2 h3 h4
    ·exact lay_bend R hk V h4
   ·exact lay_pool R hk V h3
  ·exact lay_conv R hk V h2
 ·exact lay_dense R hk V h1
end
open Go.AM
theorem run_loops {n:Nt} {d:List (List Int)} {p:List Int} (R:RN n d p):∀ (r m1 m2 k:Nat) (T:List Nd) (last frm:Nat) (L:List Int),k+r=n.2.length→r<m1→r<m2→RV n d k T last frm L→
  ∃ (out:Nat) (T':List Nd) (L':List Int),
   Fp (fun go (x:Int×Int×Int×Int×List Int×List Nd×List Int)=>f36_l4 n (0,d) go x.1 x.2.1 x.2.2.1 x.2.2.2.1 x.2.2.2.2.1 x.2.2.2.2.2.1 x.2.2.2.2.2.2) m1 ((last:Int),(frm:Int),(k:Int),0,p.drop (mny n d k).toNat,T,L)=some ((out:Int),0,p.drop (mny n d n.2.length).toNat,T',L')∧
   Fp (fun go (x:Int×Int×Int×Int×List Int×List Nd)=>f40_l55 n p go x.1 x.2.1 x.2.2.1 x.2.2.2.1 x.2.2.2.2.1 x.2.2.2.2.2) m2 ((frm:Int),(last:Int),mny n d k,(k:Int),L,T)=some (Sum.inr ((out:Int),L',T'))∧
   PL T'∧T'.length≤1+6*n.2.length∧(L'.length≤2*n.2.length∧∀ x ∈ L',0≤x∧x<(T'.length:Int))
 | r,0,m2,k,T,last,frm,L,h1,h2,h3,V=>absurd h2 (by omega)
 | r,m1+1,0,k,T,last,frm,L,h1,h2,h3,V=>absurd h3 (by omega)
 | 0,m1+1,m2+1,k,T,last,frm,L,h1,h2,h3,V=>by
  obtain rfl:k=n.2.length:=by omega
  refine ⟨last,T,L,?_,?_,V.vG,V.vT,V.vs⟩
  ·rw [G9]
   unfold f36_l4
   simp only
   rw [dF,cond_false]
  ·rw [G9]
   unfold f40_l55
   simp only
   rw [dF,cond_false]
 | r+1,m1+1,m2+1,k,T,last,frm,L,h1,h2,h3,V=>by
  have hk:k<n.2.length:=by omega
  have hN:=R.nN
  obtain ⟨out,T',L',e1,e2,V'⟩:=lay_all R hk V
  obtain ⟨o,T'',L'',f1,f2,f3⟩:=run_loops R r m1 m2 (k+1) T' out last L' (by omega) (by omega) (by omega) V'
  refine ⟨o,T'',L'',?_,?_,f3⟩
  ·have hL:=R.W.wL
   have e:f68 T 0 (p.drop (mny n d k).toNat) L ((rd (Ty.z (.p .str (.p (.int .i64) (.int .i64)))) n.2 (k:Int)).1,((rd (Ty.z (.p .str (.p (.int .i64) (.int .i64)))) n.2 (k:Int)).2).1,((rd (Ty.z (.p .str (.p (.int .i64) (.int .i64)))) n.2 (k:Int)).2).2) (rd (Ty.z (.sl (.int .i64))) d (k:Int)) (last:Int) (frm:Int)=_:=e1
   rw [G9]
   unfold f36_l4
   simp only
   rw [dT,cond_true,Bh,Bh,e,A9,Gh k]
   exact f1
  ·have hl:=V.vl
   rw [G9]
   unfold f40_l55
   simp only
   rw [dT,cond_true,Bh,Bh,e2,A9]
   simp only
   rw [nF rfl,cond_false,Gh k]
   exact f2
theorem run_both (n:Nt) (hN:n.2.length≤12) (p x:List Int) (ip:inI p) (ix:inI x) :
  (∃ e,e≠0∧f36 [] n p x=some (0,e,[],[])∧f40 [] n p x=some (0,e,[],[]))∨
  ∃ (out:Int) (L:List Int) (T:List Nd),f36 [] n p x=some (out,0,L,T)∧f40 [] n p x=some (out,0,L,T)∧PL T∧T.length≤100∧L.length≤100∧∀ x ∈ L,0≤x∧x<(T.length:Int):=by
 obtain ⟨eP,hP⟩:=shapesP n (by omega)
 have eR:=shapesR n (by omega)
 have eP2:f63 (n.1,n.2)=some ((shs n).1,(shs n).2.2):=eP
 have eR2:f34 (n.1,n.2)=some ((shs n).2.1,(shs n).1,(shs n).2.2):=eR
 unfold f36 f40
 rw [eP2,A9,eR2,A9]
 by_cases h0:(shs n).1=0
 ·obtain ⟨hg,hw,hs⟩:=hP h0
  have W:=wk_wf hg _ _ (Nat.le_refl _) hw
  have e3:=sumP hg (by omega) W
  rw [hs] at e3
  injection e3 with e3
  have em:(shs n).2.1=mny n (shs n).2.2 n.2.length:=congrArg Prod.fst e3
  have eb:bad n (shs n).2.2=false:=by have:=congrArg Prod.snd e3;simpa using this.symm
  have hs2:f64 (n.1,n.2) (shs n).2.2=some ((shs n).2.1,true):=hs
  have D:=(Kc hg).1
  obtain ⟨q1,q2⟩:=dd_prod D
  simp only
  rw [nF h0,cond_false,cond_false,hs2,A9]
  have jP:f36_j2 n p x ((shs n).2.1,true)=some (if (p.length:Int)=(shs n).2.1∧(x.length:Int)=Ft n.1 then Sum.inl () else Sum.inr ()):=by
   unfold f36_j2 f36_j3
   simp only
   rw [mprod (dd_pos D) (by omega) (by have:=D.1;omega),A9]
   by_cases c1:(p.length:Int)=(shs n).2.1
   ·rw [nF c1,cond_false,A9]
    by_cases c2:(x.length:Int)=Ft n.1
    ·rw [nF c2,if_pos ⟨c1,c2⟩];rfl
    ·rw [nT c2,if_neg (fun h=>c2 h.2)];rfl
   ·rw [nT c1,if_neg (fun h=>c1 h.1)];rfl
  have jR:f40_j2 n p x ((shs n).2.1,(shs n).1,(shs n).2.2)=some (if (p.length:Int)=(shs n).2.1∧(x.length:Int)=Ft n.1 then Sum.inl () else Sum.inr ()):=by
   unfold f40_j2 f40_j3
   simp only
   rw [rpro (dd_pos D) (by omega) (by have:=D.1;omega),A9]
   by_cases c1:(p.length:Int)=(shs n).2.1
   ·rw [nF c1,cond_false,A9]
    by_cases c2:(x.length:Int)=Ft n.1
    ·rw [nF c2,if_pos ⟨c1,c2⟩];rfl
    ·rw [nT c2,if_neg (fun h=>c2 h.2)];rfl
   ·rw [nT c1,if_neg (fun h=>c1 h.1)];rfl
  rw [jP,A9,jR,A9]
  by_cases hc:(p.length:Int)=(shs n).2.1∧(x.length:Int)=Ft n.1
  ·obtain ⟨c1,c2⟩:=hc
   rw [if_pos ⟨c1,c2⟩]
   right
   have R:RN n (shs n).2.2 p:=⟨hN,hg,hw,eb,by rw [c1,em],ip⟩
   have i0:=R.in0
   have epr:=prd_of (dd_pos D) (by have:=D.1;omega) i0
   have gx:F4 ((n.1,x):Tn):=⟨G0 (by simp only;omega) (by simp only;omega),ix⟩
   obtain ⟨w,a1,a2,a3,a4⟩:=push_leaf [] (n.1,x) (by simp) pl_nil gx
   have hw0:(nd [w] 0).1=dm (shs n).2.2 0:=by
    have:=Kz [] w
    rw [R.W.w0]
    exact (congrArg Prod.fst this).trans a3
   have V:RV n (shs n).2.2 0 [w] 0 0 []:=⟨a4,by simp,by simp,hw0,by simp,fun h=>absurd h (by omega),by simp,fun x hx=>absurd hx (by simp)⟩
   obtain ⟨out,T',L',f1,f2,f3,f4,f5,f6⟩:=run_loops R n.2.length Fq Fq 0 [w] 0 0 [] (by omega) (by show n.2.length<18446744073709551616;omega) (by show n.2.length<18446744073709551616;omega) V
   have f1':Fp (fun go (x:Int×Int×Int×Int×List Int×List Nd×List Int)=>f36_l4 n ((shs n).1,(shs n).2.2) go x.1 x.2.1 x.2.2.1 x.2.2.2.1 x.2.2.2.2.1 x.2.2.2.2.2.1 x.2.2.2.2.2.2) Fq ((0:Int),(0:Int),(0:Int),(0:Int),p,[w],[])=some ((out:Int),0,p.drop (mny n (shs n).2.2 n.2.length).toNat,T',L'):=by rw [h0];exact f1
   have f2':Fp (fun go (x:Int×Int×Int×Int×List Int×List Nd)=>f40_l55 n p go x.1 x.2.1 x.2.2.1 x.2.2.2.1 x.2.2.2.2.1 x.2.2.2.2.2) Fq ((0:Int),(0:Int),(0:Int),(0:Int),[],[w])=some (Sum.inr ((out:Int),L',T')):=f2
   have lf:f67 [] 0 p [] n.1 x=some (0,0,p,[],[w]):=leafM a1
   have a2':f77 [] (n.1,x)=some (0,0,[w]):=a2
   refine ⟨(out:Int),L',T',?_,?_,f3,by omega,by omega,f6⟩
   ·rw [Fl,show f66 []=some (0,[]) from rfl,A9]
    simp only
    rw [lf,A9]
    simp only
    rw [f1',A9]
    simp only
    rw [nF rfl,cond_false]
   ·rw [Fl,a2',A9]
    simp only
    rw [nF rfl,cond_false,f2',A9,F6]
  ·rw [if_neg hc]
   exact .inl ⟨1,by decide,rfl,rfl⟩
 ·simp only
  rw [nT h0,cond_true,cond_true]
  exact .inl ⟨_,h0,rfl,rfl⟩
end Go.Proofs.Cv
namespace Go.Proofs.PlG
open Go.AM Go.Proofs.PlW
theorem range_i64 {x:Int} (h:Ty.wf (.int .i64) x) : -9223372036854775808≤x∧x<9223372036854775808:=by
 have h:(Lit.int .i64 x).wf=true:=h
 simp only [Lit.wf,IntKind.min,IntKind.max,IntKind.signed,IntKind.bits,Bool.and_eq_true,decide_eq_true_eq,if_true] at h
 omega
theorem row_i64 {l:List Int} (h:Ty.wf (.sl (.int .i64)) l):inI l:=fun x hx=>range_i64 (h.2 x hx)
end Go.Proofs.PlG
namespace Go.Proofs.Cv
open Go.AM Go.Proofs.PlB Go.Proofs.PlW Go.Proofs.PlT Go.Proofs.PlS Go.Proofs.Sh Go.Proofs.Num Go.Proofs.Div Go.Proofs.Op
open Go.Proofs.PlR hiding Tn
theorem sweeps11 (T:List Nd) (P:PL T) (root:Nat) (hr:root<T.length) (hl:T.length≤512) (h1:prd (nd T root).1=1) :
  ∃ g,f38 T (root:Int)=some (0,g,T)∧f42 T (root:Int)=some (0,g,T)∧g.length=root+1∧∀ i,i≤root→F4 (rd Z2 g (i:Int)):=by
 have C:∀ i,∃ ga gb,i≤root→NodeOk T i ga gb∧NodeR T i ga gb:=fun i=>by
  by_cases h:i≤root
  ·obtain ⟨ga,gb,h1⟩:=pn_both T P i (by omega);exact ⟨ga,gb,fun _=>h1⟩
  ·exact ⟨fun _=>noT,fun _=>noT,fun h1=>absurd h1 h⟩
 have C2:∃ GA GB:Nat→Tn→Tn,∀ i,i≤root→NodeOk T i (GA i) (GB i)∧NodeR T i (GA i) (GB i):=
  ⟨fun i=>Classical.choose (C i),fun i=>Classical.choose (Classical.choose_spec (C i)),fun i hi=>Classical.choose_spec (Classical.choose_spec (C i)) hi⟩
 obtain ⟨GA,GB,C3⟩:=C2
 have K:=keeps T GA GB root hr P.1 h1 (fun i hi=>(C3 i hi).1) (root+1) (Nat.le_refl _)
 exact ⟨_,sweepP T GA GB root hr hl P.1 h1 (fun i hi=>(C3 i hi).1),sweepR T GA GB root hr hl P.1 h1 (fun i hi=>(C3 i hi).1) (fun i hi=>(C3 i hi).2),K.l1,fun i hi=>(K.ok i hi).1⟩
theorem sweep_say (T:List Nd) (P:PL T) (hl:T.length≤512) (root:Int):∃ e g,f38 T root=some (e,g,T)∧f42 T root=some (e,g,T)∧g.length≤512∧(∀ i,i<g.length→F4 (rd Z2 g (i:Int)))∧(e=0→0≤root∧root<T.length∧prd (nd T root.toNat).1=1∧(g.length:Int)=root+1):=by
 have G:=P.1
 by_cases h:0≤root∧root<T.length
 ·obtain ⟨r,rfl⟩:=Int.eq_ofNat_of_zero_le h.1
  have hr:r<T.length:=by omega
  obtain ⟨p0,lr,_,_⟩:=Fw (G r hr).1
  by_cases h1:prd (nd T r).1=1
  ·obtain ⟨g,s1,s2,s3,s4⟩:=sweeps11 T P r hr hl h1
   exact ⟨0,g,s1,s2,by omega,fun i hi=>s4 i (by omega),fun _=>⟨h.1,h.2,by rw [Int.toNat_natCast];exact h1,by omega⟩⟩
  ·refine ⟨4,[],?_,?_,by simp,fun i hi=>absurd hi (by simp),fun h0=>absurd h0 (by decide)⟩
   ·unfold f38
    rw [valueP T _ G,A9,Ja T r hr]
    simp only
    rw [dT h,Bool.not_true,cond_false,dT];rfl
   ·have ej:f42_j1 T (r:Int)=some (Sum.inl ()):=by
     unfold f42_j1
     rw [dF,cond_false,dF];rfl
    have e:(rd (Ty.z (.p (.int .i64) (.p (.int .i64) (.p (.int .i64) (.p (.int .i64) (.p (.sl (.int .i64)) (.sl (.int .i64)))))))) T (r:Int)).2.2.2.2.2=(nd T r).2:=rfl
    unfold f42
    rw [ej,A9,Fl,Bh h,e,nT];rfl
 ·refine ⟨1,[],?_,?_,by simp,fun i hi=>absurd hi (by simp),fun h0=>absurd h0 (by decide)⟩
  ·unfold f38
   rw [valueP T _ G,A9,dF h];rfl
  ·have ej:f42_j1 T root=some (Sum.inr ()):=by
    unfold f42_j1
    by_cases h0:root<0
    ·rw [dT h0];rfl
    ·rw [dF h0,cond_false,dT];rfl
   unfold f42
   rw [ej,A9,F6]
theorem alike_big (a:List Int) (h:a.length≤1000000):f15 a a=some true:=by
 unfold f15
 rw [nF rfl,cond_false]
 have L:=Fx (B:=fun go x=>f15_l1 a a go x) (fun k=>(k:Int)) a.length (Sum.inr ()) ?_ ?_ (by omega)
 ·have L':Fp (fun go x=>f15_l1 a a go x) Fq (0:Int)=_:=L
  rw [L'];rfl
 ·intro k hk go
  unfold f15_l1
  rw [dT,cond_true,Bh,Bh,nF rfl,cond_false,Gh k]
 ·intro go
  unfold f15_l1
  rw [dF,cond_false]
theorem gather (out e e2:Int) (L:List Int) (T T2:List Nd) (g:List Tn) (hL:L.length≤100) (hi:∀ x ∈ L,0≤x∧x<(g.length:Int)) (gg:∀ i,i<g.length→F4 (rd Z2 g (i:Int))) :
  ∃ z,Fp (fun go (x:Int×List Int)=>f11_l4 (out,e,L,T) (e2,g,T2) go x.1 x.2) Fq ((0:Int),[])=some z∧z.length≤1000000∧inI z:=by
 obtain ⟨z,ez,hz⟩:=Le (B:=fun go (x:Int×List Int)=>f11_l4 (out,e,L,T) (e2,g,T2) go x.1 x.2) (fun k x=>x.1=(k:Int)∧x.2.length≤k*4096∧inI x.2) (fun z=>z.length≤1000000∧inI z) L.length ((0:Int),[]) ⟨rfl,by simp,fun x hx=>absurd hx (by simp)⟩ (by
  rintro k hk ⟨_,l⟩ ⟨rfl,hl,il⟩
  simp only at hl il
  have hm:rd (0:Int) L (k:Int)=L[k]:=Gg _ _ _ hk
  obtain ⟨x0,x1⟩:=hi L[k] (List.getElem_mem hk)
  obtain ⟨j,hj⟩:=Int.eq_ofNat_of_zero_le x0
  have hjl:j<g.length:=by omega
  have G:=gg j hjl
  obtain ⟨_,_,_,l4⟩:=Fw G.1
  refine ⟨((k+1:Nat),l++(rd Z2 g (j:Int)).2),fun go=>?_,rfl,by rw [List.length_append,Nat.add_mul];omega,fun y hy=>?_⟩
  ·unfold f11_l4
   simp only
   rw [hm,hj,dT,cond_true,Bh,Bh,Gh k]
   exact Bh (by
    show (l.length+(rd Z2 g (j:Int)).2.length)*8≤140737488355328
    omega)
  ·rcases List.mem_append.1 hy with hy | hy
   ·exact il y hy
   ·exact G.2 y hy) (by
  rintro ⟨_,l⟩ ⟨rfl,hl,il⟩
  simp only at hl il
  refine ⟨l,fun go=>?_,by omega,il⟩
  unfold f11_l4
  simp only
  rw [dF,cond_false]) (by omega)
 exact ⟨z,ez,hz⟩
theorem of_both (n:Nt) (hN:n.2.length≤12) (kind:Int) (p:List Int) (x:List Int×List Int×Int) (ip:inI p) (ix:inI x.1) (iy:inI x.2.1) :
  ∃ r,f11 n kind p x=some r∧f12 n kind p x=some r∧r.2.2.length≤1000000∧inI r.2.2∧InR r.1:=by
 by_cases hk:1≤kind∧kind≤3
 ·have j2:f11_j2 kind=some (Sum.inl ()):=by
   unfold f11_j2 f11_j3
   rw [dF,cond_false,dF];rfl
  have j2R:f12_j2 kind=some (Sum.inl ()):=by
   unfold f12_j2 f12_j3
   rw [dF,cond_false,dF];rfl
  unfold f11 f12
  rw [j2,j2R,A9,A9,Fl,Fl,show f35=some () from rfl,A9]
  rcases run_both n hN p x.1 ip ix with ⟨e,he,e1,e2⟩ | ⟨out,L,T,e1,e2,P,hT,hL,hi⟩
  ·have e1':f36 [] (n.1,n.2) p x.1=_:=e1
   have e2':f40 [] (n.1,n.2) p x.1=_:=e2
   rw [e1',e2',A9,A9,nT he]
   exact ⟨(0,e,[]),rfl,rfl,by simp,fun y hy=>absurd hy (by simp),by show InR 0;omega⟩
  ·have e1':f36 [] (n.1,n.2) p x.1=_:=e1
   have e2':f40 [] (n.1,n.2) p x.1=_:=e2
   rw [e1',e2',A9,A9,nF rfl,cond_false,cond_false]
   rcases far_both P (by omega) kind out hk.1 hk.2 x iy with ⟨e,T1,T2,he,f1,f2⟩ | ⟨i,T2,f1,f2,P2,h2,hi2,hz2⟩
   ·have f1':f37 T kind out (x.1,x.2.1,x.2.2)=_:=f1
    simp only
    rw [f1',f2,A9,A9,nT he]
    exact ⟨(0,e,[]),rfl,rfl,by simp,fun y hy=>absurd hy (by simp),by show InR 0;omega⟩
   ·have f1':f37 T kind out (x.1,x.2.1,x.2.2)=_:=f1
    simp only
    rw [f1',f2,A9,A9,nF rfl,cond_false,cond_false]
    simp only
    obtain ⟨e,g,s1,s2,hg,gg,h0⟩:=sweep_say T2 P2 h2 i
    rw [s1,s2,A9,A9]
    by_cases he:e=0
    ·obtain ⟨r0,r1,r2,r3⟩:=h0 he
     obtain ⟨z,ez,hz,iz⟩:=gather out 0 e L T T2 g hL (fun y hy=>by have:=hi y hy;omega) gg
     have ez':Fp (fun go (x:Int×List Int)=>f12_l4 (out,0,L,T) (e,g,T2) go x.1 x.2) Fq ((0:Int),[])=some z:=ez
     have hv:vl T2 i=nd T2 i.toNat:=by unfold vl;rw [if_pos ⟨r0,r1⟩]
     have hG:=P2.1 i.toNat (by omega)
     obtain ⟨_,gl,_,_⟩:=Fw hG.1
     have ev:=rdN_vl (l:=T2) ⟨r0,r1⟩
     have gv:0≤(0:Int)∧(0:Int)<(List.length (vl T2 i).2:Int):=by rw [hv];omega
     have ev2:(rd (Ty.z (.p (.int .i64) (.p (.int .i64) (.p (.int .i64) (.p (.int .i64) (.p (.sl (.int .i64)) (.sl (.int .i64)))))))) T2 i).2.2.2.2.2=(vl T2 i).2:=congrArg Prod.snd ev
     rw [nF he,cond_false,cond_false,ez,ez',A9,A9,valueP T2 i P2.1,A9]
     simp only
     rw [Bh gv,Bh (show 0≤i∧i<(T2.length:Int) from ⟨r0,r1⟩),ev2,Bh gv]
     refine ⟨_,rfl,rfl,hz,iz,?_⟩
     show InR (rd (0:Int) (vl T2 i).2 0)
     rw [hv]
     have:rd (0:Int) (nd T2 i.toNat).2 ((0:Nat):Int)=(nd T2 i.toNat).2[0]'(by omega):=Gg _ _ _ (by omega)
     have hm:=hG.2 _ (List.getElem_mem (show 0<(nd T2 i.toNat).2.length by omega))
     rw [← this] at hm
     exact hm
    ·rw [nT he]
     exact ⟨(0,e,[]),rfl,rfl,by simp,fun y hy=>absurd hy (by simp),by show InR 0;omega⟩
 ·have j2:f11_j2 kind=some (Sum.inr ()):=by
   unfold f11_j2 f11_j3
   by_cases h1:kind<1
   ·rw [dT h1];rfl
   ·rw [dF h1,cond_false,dT];rfl
  have j2R:f12_j2 kind=some (Sum.inr ()):=by
   unfold f12_j2 f12_j3
   by_cases h1:kind<1
   ·rw [dT h1];rfl
   ·rw [dF h1,cond_false,dT];rfl
  unfold f11 f12
  rw [j2,j2R]
  exact ⟨(0,1,[]),rfl,rfl,by simp,fun y hy=>absurd hy (by simp),by show InR 0;omega⟩
open Go.Proofs.PlV (pair far)
abbrev Exm:=List Int×List Int×Int
section
variable (n:Nt) (kind:Int) (p:List Int)
def gx (x:Exm):Int×Int×List Int:=(f11 n kind p x).getD (0,1,[])
def gv (x:Exm):Int:=if (gx n kind p x).2.1=0 then (gx n kind p x).1 else 0
def gg (x:Exm):List Int:=if (gx n kind p x).2.1=0 then (gx n kind p x).2.2 else []
def er:List Exm→Int
 | []=>0
 | x::r=>if (gx n kind p x).2.1=0 then er r else (gx n kind p x).2.1
end
structure Can (n:Nt) (d:List (List Int)) (kind:Int) (p:List Int):Prop where
 cN:Net1 n d
 cS:f63 n=some (0,d)
 cP:inI p
section
variable {n:Nt} {d:List (List Int)} {kind:Int} {p:List Int} (C:Can n d kind p)
include C
end
theorem awake14:f7=some true:=by kernel_rfl
theorem shs_pos (n:Nt) (hN:n.2.length≤12) (h0:(shs n).1=0):0≤(shs n).2.1:=by
 obtain ⟨eP,hP⟩:=shapesP n (by omega)
 obtain ⟨hg,hw,hs⟩:=hP h0
 have W:=wk_wf hg _ _ (Nat.le_refl _) hw
 have e3:=sumP hg (by omega) W
 rw [hs] at e3
 injection e3 with e3
 have em:(shs n).2.1=mny n (shs n).2.2 n.2.length:=congrArg Prod.fst e3
 rw [em]
 exact (mny_in hg (by omega) W _ (Nat.le_refl _)).1
theorem tameS (n:Nt):∃ m ok,f8 n=some (m,ok)∧(ok=true→0≤m∧m≤80∧n.2.length≤6):=by
 unfold f8 f8_j1
 by_cases h4:(List.length n.1:Int)>4
 ·rw [dT h4];exact ⟨_,_,rfl,fun h=>absurd h (by decide)⟩
 ·rw [dF h4,cond_false]
  by_cases h6:(List.length n.2:Int)>6
  ·rw [dT h6];exact ⟨_,_,rfl,fun h=>absurd h (by decide)⟩
  ·have h6':n.2.length≤6:=by omega
   have en:f13 (n.1,n.2)=some n:=net_self n h6'
   have es2:f34 (n.1,n.2)=some ((shs n).2.1,(shs n).1,(shs n).2.2):=shapesR n (by omega)
   rw [dF h6,cond_false,A9,Fl,en,A9,es2,A9]
   by_cases h0:(shs n).1=0
   ·rw [bT h0]
    exact ⟨_,_,rfl,fun h=>⟨shs_pos n (by omega) h0,of_decide_eq_true h,h6'⟩⟩
   ·rw [bF h0];exact ⟨_,_,rfl,fun h=>absurd h (by decide)⟩
theorem says_j (p:List Int) (e:List Int×List Int×Int) (r:Int×Bool):(f3_j1 p e r=some (Sum.inl ())∧r.2=true)∨f3_j1 p e r=some (Sum.inr ()):=by
 unfold f3_j1
 cases hr:r.2 with
 | false=>exact .inr rfl
 | true=>
  rw [Bool.not_true,cond_false]
  by_cases h:(List.length p:Int)>100
  ·rw [dT h];exact .inr rfl
  ·rw [dF h,cond_false]
   obtain ⟨b,eb⟩:=lightW e
   have eb2:f9 (e.1,e.2.1,e.2.2)=some b:=eb
   rw [eb2,A9]
   cases b
   ·exact .inr rfl
   ·exact .inl ⟨rfl,rfl⟩
theorem lawSays (n:Nt) (kind:Int) (p:List Int) (e:List Int×List Int×Int) (ip:inI p) (ix:inI e.1) (iy:inI e.2.1):f3 n kind p e=some true:=by
 unfold f3
 rw [awake14,A9,Bool.not_true,cond_false]
 obtain ⟨m,ok,et,ht⟩:=tameS n
 have et2:f8 (n.1,n.2)=some (m,ok):=et
 rw [et2,A9]
 rcases says_j p e (m,ok) with ⟨ej,hok⟩ | ej
 ·rw [ej,A9,Fl]
  obtain ⟨m0,m1,h6⟩:=ht hok
  obtain ⟨q,eq,iq⟩:=filledW p m m0 m1 ip
  have eq2:f10 p (m,ok).1=some q:=eq
  rw [eq2,A9]
  have one:∀ (y:List Int),inI y→∀ (A:Option (Sum Unit Unit)),(D4 (f11 (n.1,n.2) kind y (e.1,e.2.1,e.2.2)) fun r13=>D4 (f13 (n.1,n.2)) fun q1=>D4 (f14 (e.1,e.2.1,e.2.2)) fun q5=>
    D4 (f12 (q1.1,q1.2) kind y (q5.1,q5.2.1,q5.2.2)) fun q6=>bif (r13.2.1 != q6.2.1) then some (Sum.inl ()) else bif (r13.1 != q6.1) then some (Sum.inl ()) else D4 (f15 r13.2.2 q6.2.2) fun q13=>bif (!q13) then some (Sum.inl ()) else A)=A:=by
   intro y iy2 A
   obtain ⟨r,e1,e2,hl,_⟩:=of_both n (by omega) kind y e iy2 ix iy
   have e1':f11 (n.1,n.2) kind y (e.1,e.2.1,e.2.2)=some r:=e1
   have en:f13 (n.1,n.2)=some n:=net_self n h6
   have e2':f12 (n.1,n.2) kind y (e.1,e.2.1,e.2.2)=some r:=e2
   rw [e1',A9,en,A9,show f14 (e.1,e.2.1,e.2.2)=some (e.1,e.2.1,e.2.2) from rfl,A9]
   simp only
   rw [e2',A9,nF rfl,cond_false,nF rfl,cond_false,alike_big _ hl,A9]
   rfl
  have LL:=Fx (B:=fun go x=>f3_l2 n kind p e q go x) (fun k=>(k:Int)) 2 (Sum.inr ()) (by
   intro k hk go
   unfold f3_l2
   rw [dT,cond_true,Bh]
   match k,hk with
   | 0,_=>exact one p ip (go 1)
   | 1,_=>exact one q iq (go 2)) (by
   intro go
   unfold f3_l2
   rw [dF,cond_false]) (by omega)
  have LL':Fp (fun go x=>f3_l2 n kind p e q go x) Fq (0:Int)=_:=LL
  rw [LL',A9,F6]
 ·rw [ej,A9,F6]
end Go.Proofs.Cv

