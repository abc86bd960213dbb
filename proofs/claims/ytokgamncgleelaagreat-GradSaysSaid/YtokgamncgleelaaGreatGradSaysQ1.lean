import Derived.Test.YtokgamncgleelaaGreatGradSaysQ0
set_option linter.unusedVariables false
set_option linter.unusedSimpArgs false
set_option maxRecDepth 100000
set_option linter.unusedSectionVars false

namespace Go.Proofs.PlV
open Go.AM Go.Proofs.PlB Go.Proofs.PlW Go.Proofs.PlT
def cl (n:Nat):Bool:=(f216 (n:Int)==some 56&&(decide (128≤(n:Int)*1)&&decide ((n:Int)*1≤255)))||(f216 (n:Int)==some 57&&(decide (128≤(n:Int)*2)&&decide ((n:Int)*2≤255)))||(f216 (n:Int)==some 58&&(decide (128≤(n:Int)*4)&&decide ((n:Int)*4≤255)))||(f216 (n:Int)==some 59&&(decide (128≤(n:Int)*8)&&decide ((n:Int)*8≤255)))||(f216 (n:Int)==some 60&&(decide (128≤(n:Int)*16)&&decide ((n:Int)*16≤255)))||(f216 (n:Int)==some 61&&(decide (128≤(n:Int)*32)&&decide ((n:Int)*32≤255)))||(f216 (n:Int)==some 62&&(decide (128≤(n:Int)*64)&&decide ((n:Int)*64≤255)))||(f216 (n:Int)==some 63&&(decide (128≤(n:Int)*128)&&decide ((n:Int)*128≤255)))
theorem cl_all:(List.range 201).all (fun n=>n==0||cl n)=true:=by kernel_rfl
theorem clz_ok (n:Nat) (h1:n<201) (h0:1≤n):(f216 (n:Int)=some 56∧128≤(n:Int)*1∧(n:Int)*1≤255)∨(f216 (n:Int)=some 57∧128≤(n:Int)*2∧(n:Int)*2≤255)∨(f216 (n:Int)=some 58∧128≤(n:Int)*4∧(n:Int)*4≤255)∨(f216 (n:Int)=some 59∧128≤(n:Int)*8∧(n:Int)*8≤255)∨(f216 (n:Int)=some 60∧128≤(n:Int)*16∧(n:Int)*16≤255)∨(f216 (n:Int)=some 61∧128≤(n:Int)*32∧(n:Int)*32≤255)∨(f216 (n:Int)=some 62∧128≤(n:Int)*64∧(n:Int)*64≤255)∨(f216 (n:Int)=some 63∧128≤(n:Int)*128∧(n:Int)*128≤255):=by
 have h:=List.all_eq_true.1 cl_all n (List.mem_range.2 h1)
 rw [Bool.or_eq_true] at h
 rcases h with h | h
 ·simp at h;omega
 ·simpa only [cl,Bool.or_eq_true,Bool.and_eq_true,beq_iff_eq,decide_eq_true_eq,or_assoc] using h
end Go.Proofs.PlV
namespace Go.Proofs.PlR
open Go.AM Go.Proofs.PlB Go.Proofs.PlW Go.Proofs.PlT Go.Proofs.PlS Go.Proofs.PlV
def sumL:List Int→Int
 | []=>0
 | x::r=>x+sumL r
theorem sumL_app:∀ a b:List Int,sumL (a++b)=sumL a+sumL b
 | [],b=>by simp [sumL]
 | x::r,b=>by simp only [List.cons_append,sumL,sumL_app r b];omega
theorem sumL_bound (b:Int) (hb:0≤b):∀ l:List Int,(∀ x ∈ l,-b≤x∧x≤b)→-(l.length*b)≤sumL l∧sumL l≤l.length*b
 | [],_=>by simp [sumL]
 | x::r,h=>by
  have h1:=h x (by simp)
  have h2:=sumL_bound b hb r (fun y hy=>h y (by simp [hy]))
  simp only [sumL,List.length_cons,Int.natCast_add,Int.natCast_one,Int.add_mul,Int.one_mul]
  omega
theorem far_sum (l:List Int) (il:inI l) (hl:l.length≤4096):far (sumL l):=by
 have h:=sumL_bound 9223372036854775808 (by decide) l (fun x hx=>by have:=il x hx;omega)
 unfold far;omega
theorem total_ok (l:List Int) (il:inI l) (hl:l.length≤4096):f238 l=some (pair (sumL l)):=by
 unfold f238
 have H:∀ x:Int×Int×Int,(∃ k:Nat,k≤l.length∧x=((k:Int),(pair (sumL (l.take k))).1,(pair (sumL (l.take k))).2))→
   (∃ z,(∀ go,f238_l1 l go x.1 x.2.1 x.2.2=some z)∧z=pair (sumL l))∨
   (∃ y:Int×Int×Int,(∀ go,f238_l1 l go x.1 x.2.1 x.2.2=go y)∧(∃ k:Nat,k≤l.length∧y=((k:Int),(pair (sumL (l.take k))).1,(pair (sumL (l.take k))).2))∧((l.length:Int)-y.1).toNat<((l.length:Int)-x.1).toNat):=by
  rintro _ ⟨k,hk,rfl⟩
  unfold f238_l1
  simp only
  by_cases h:k<l.length
  ·right
   refine ⟨(((k+1:Nat):Int),(pair (sumL (l.take (k+1)))).1,(pair (sumL (l.take (k+1)))).2),fun go=>?_,⟨k+1,h,rfl⟩,by simp only;omega⟩
   rw [show decide ((k:Int)<(l.length:Int))=true by simpa using h]
   simp only [cond_true]
   have hr:=il l[k] (List.getElem_mem h)
   rw [Bh,Gg _ _ _ h,of_ok _ hr.1 hr.2]
   simp only [A9]
   have e:sumL (l.take (k+1))=sumL (l.take k)+l[k]:=by
    rw [List.take_succ_eq_append_getElem h,sumL_app]
    simp [sumL]
   have far1:far (sumL (l.take k)):=far_sum _ (fun x hx=>il x (List.mem_of_mem_take hx)) (by simp;omega)
   have far2:far (sumL (l.take (k+1))):=far_sum _ (fun x hx=>il x (List.mem_of_mem_take hx)) (by simp;omega)
   rw [e] at far2 ⊢
   rw [show ((pair (sumL (l.take k))).1,(pair (sumL (l.take k))).2)=pair (sumL (l.take k)) from rfl,show ((pair l[k]).1,(pair l[k]).2)=pair l[k] from rfl,add_w _ _ far1 (by unfold far;omega) far2]
   simp only [A9]
   rw [E9]
   rfl
  ·left
   have:k=l.length:=by omega
   subst this
   refine ⟨_,fun go=>?_,rfl⟩
   rw [show decide ((l.length:Int)<(l.length:Int))=false by simp]
   rw [List.take_length]
   rfl
 obtain ⟨z,e,rfl⟩:=Gd (B:=fun go (x:Int×Int×Int)=>f238_l1 l go x.1 x.2.1 x.2.2) _ (fun x=>((l.length:Int)-x.1).toNat) _ H ((0:Int),(0:Int),(0:Int)) ⟨0,Nat.zero_le _,by simp [pair,sumL]⟩ (by simp;omega)
 rw [e]
 rfl
theorem single_ok (v:Int):f221 v 0=some (0,[],[v]):=by
 unfold f221
 rw [show ((0:Int) != 0)=false from rfl]
 simp only [cond_false]
 rw [Ky,prd_nil,if_pos (by decide)]
 rfl
abbrev Nd:=Int×Int×Int×Int×(List Int)×(List Int)
def nd (l:List Nd) (i:Nat):Tn:=(rd (Ty.z (.p (.int .i64) (.p (.int .i64) (.p (.int .i64) (.p (.int .i64) (.p (.sl (.int .i64)) (.sl (.int .i64)))))))) l (i:Int)).2.2.2.2
theorem Ld (l m:List Nd) (i:Nat) (h:i<l.length):nd (l++m) i=nd l i:=by
 unfold nd
 rw [Gg _ _ _ h,Gg _ _ _ (by simp;omega),List.getElem_append_left h]
theorem Kz (l:List Nd) (n:Nd):nd (l++[n]) l.length=n.2.2.2.2:=by
 unfold nd
 rw [Gg _ _ _ (by simp)]
 simp
theorem push_ok (l:List Nd) (n:Nd) (h:l.length<512):f156 l n=some ((l.length:Int),l++[n]):=by
 unfold f156
 rw [Bh (by simp;omega)]
 simp only [A9,List.length_append,List.length_cons,List.length_nil]
 rw [E9]
 simp
theorem leaf_ok (l:List Nd) (a:Tn) (h:l.length<512) (hg:Fu a=true):f100 l a=some ((l.length:Int),0,l++[(1,-1,-1,0,a.1,a.2)]):=by
 obtain ⟨_,_,l1,l2⟩:=Fw hg
 unfold f100
 rw [show decide ((List.length l:Int)≥(512:Int))=false by simp;omega,show (a.1,a.2)=a from rfl,F8,hg]
 simp only [cond_false,A9,Bool.not_true]
 rw [copy_t a (by omega) (by omega)]
 simp only [A9]
 rw [push_ok _ _ h]
 rfl
end Go.Proofs.PlR
namespace Go.Proofs.Op
open Go.AM Go.Proofs.PlB Go.Proofs.PlW Go.Proofs.PlT Go.Proofs.PlS Go.Proofs.Sh Go.Proofs.Num Go.Proofs.Div
abbrev Tn:=List Int×List Int
abbrev InR (x:Int):Prop:=-9223372036854775808≤x∧x<9223372036854775808
theorem Jg (x:Int):InR (sat x):=PlR.sat_range x
theorem inI_tab {n:Nat} {g:Nat→Int} (h:∀ i,i<n→InR (g i)):inI (Ga n g):=PlR.tab_inI n g h
theorem Jh {l:List Int} (h:inI l) (i:Nat) (hi:i<l.length):InR (rd (0:Int) l (i:Int)):=inI_get h i hi
def Jd (f:Int→Int→Int) (a b:Tn):Int×Tn:=
 if Fu a=true∧Fu b=true then
  (if (jS a.1 b.1).1=0 then (0,(jS a.1 b.1).2,Ga (prd (jS a.1 b.1).2).toNat (fun i=>f (rd (0:Int) a.2 (spX a.1 (jS a.1 b.1).2 i)) (rd (0:Int) b.2 (spX b.1 (jS a.1 b.1).2 i)))) else ((jS a.1 b.1).1,[],[]))
 else (1,[],[])
theorem jS_zero {a b:List Int} (h:(jS a b).1=0):Joined a b (jS a b).2:=jS_joined (d:=(jS a b).2) (Prod.ext h rfl)
theorem addP (a b:Tn) (ia:inI a.2) (ib:inI b.2):f117 a b=some (Jd addV a b):=by
 unfold Jd
 by_cases hg:Fu a=true∧Fu b=true
 ·rw [if_pos hg]
  by_cases hj:(jS a.1 b.1).1=0
  ·rw [if_pos hj]
   exact add_of a b _ ia ib hg.1 hg.2 (by rw [joinP,← hj]) (jS_zero hj)
  ·rw [if_neg hj]
   unfold f117 f172_87 f172_87_j2 f172_87_j3
   rw [show ((a.1,a.2):Tn)=a from rfl,show ((b.1,b.2):Tn)=b from rfl,F8,F8,hg.1,hg.2,joinP]
   simp only [A9,Bool.not_true,cond_false,Fl]
   rw [nT hj];rfl
 ·rw [if_neg hg]
  unfold f117 f172_87 f172_87_j2 f172_87_j3
  rw [show ((a.1,a.2):Tn)=a from rfl,show ((b.1,b.2):Tn)=b from rfl,F8,F8]
  cases h1:Fu a <;> cases h2:Fu b <;> simp_all <;> rfl
theorem subP (a b:Tn) (ia:inI a.2) (ib:inI b.2):f218 a b=some (Jd subV a b):=by
 unfold Jd
 by_cases hg:Fu a=true∧Fu b=true
 ·rw [if_pos hg]
  by_cases hj:(jS a.1 b.1).1=0
  ·rw [if_pos hj]
   exact sub_of a b _ ia ib hg.1 hg.2 (by rw [joinP,← hj]) (jS_zero hj)
  ·rw [if_neg hj]
   unfold f218 f172_90 f172_90_j2 f172_90_j3
   rw [show ((a.1,a.2):Tn)=a from rfl,show ((b.1,b.2):Tn)=b from rfl,F8,F8,hg.1,hg.2,joinP]
   simp only [A9,Bool.not_true,cond_false,Fl]
   rw [nT hj];rfl
 ·rw [if_neg hg]
  unfold f218 f172_90 f172_90_j2 f172_90_j3
  rw [show ((a.1,a.2):Tn)=a from rfl,show ((b.1,b.2):Tn)=b from rfl,F8,F8]
  cases h1:Fu a <;> cases h2:Fu b <;> simp_all <;> rfl
theorem mulP (a b:Tn) (ia:inI a.2) (ib:inI b.2):f161 a b=some (Jd K9 a b):=by
 unfold Jd
 by_cases hg:Fu a=true∧Fu b=true
 ·rw [if_pos hg]
  by_cases hj:(jS a.1 b.1).1=0
  ·rw [if_pos hj]
   exact mul_of a b _ ia ib hg.1 hg.2 (by rw [joinP,← hj]) (jS_zero hj)
  ·rw [if_neg hj]
   unfold f161 f172_88 f172_88_j2 f172_88_j3
   rw [show ((a.1,a.2):Tn)=a from rfl,show ((b.1,b.2):Tn)=b from rfl,F8,F8,hg.1,hg.2,joinP]
   simp only [A9,Bool.not_true,cond_false,Fl]
   rw [nT hj];rfl
 ·rw [if_neg hg]
  unfold f161 f172_88 f172_88_j2 f172_88_j3
  rw [show ((a.1,a.2):Tn)=a from rfl,show ((b.1,b.2):Tn)=b from rfl,F8,F8]
  cases h1:Fu a <;> cases h2:Fu b <;> simp_all <;> rfl
theorem eachG (op:Int) (f:Int→Int→Int) (F:Int→Int→Option Int) (hF:∀ x y,InR x→InR y→F x y=some (f x y))
  (hl:∀ (a b:Tn) (r11:Int×List Int) (go:(Int×List Int)→Option (List Int)) (i:Int) (l6:List Int),f81_l4 op a b r11 go i l6 =
   bif (decide (i<(List.length l6:Int))) then
    D4 (f137 a.1 r11.2 i) fun r18=>D4 (f137 b.1 r11.2 i) fun r19=>
    Ey (0≤r18.1∧r18.1<(List.length a.2:Int))<|Ey (0≤r19.1∧r19.1<(List.length b.2:Int))<|
    D4 (F (rd (0:Int) a.2 r18.1) (rd (0:Int) b.2 r19.1)) fun q=>Ey (0≤i∧i<(List.length l6:Int))<|
    go ((IntKind.i64.wrap (i+(1:Int))),(List.set l6 (Int.toNat i) q))
   else some l6) (a b:Tn) (ia:inI a.2) (ib:inI b.2):f81 op a b=some (Jd f a b):=by
 unfold Jd f81 f81_j2 f81_j3
 rw [show ((a.1,a.2):Tn)=a from rfl,show ((b.1,b.2):Tn)=b from rfl,isR,isR]
 by_cases hg:Fu a=true∧Fu b=true
 ·rw [if_pos hg,hg.1,hg.2,joinR]
  simp only [A9,Bool.not_true,cond_false,Fl]
  by_cases hj:(jS a.1 b.1).1=0
  ·have J:=jS_zero hj
   have hd:jS a.1 b.1=(0,(jS a.1 b.1).2):=Prod.ext hj rfl
   generalize (jS a.1 b.1).2=d at hd J
   simp only [hd]
   rw [if_pos trivial,nF rfl]
   simp only [cond_false]
   have hr:=F2 d
   have hp:=J.pd
   have ga:=(Fw hg.1).2.1
   have gb:=(Fw hg.2).2.1
   rw [newR d 0 J.pd,A9]
   obtain ⟨N,hN⟩:∃ N:Nat,prd d=(N:Int):=⟨(prd d).toNat,by omega⟩
   rw [hN,Int.toNat_natCast]
   simp only
   rw [Gk N (fun i=>f (rd (0:Int) a.2 (spX a.1 d i)) (rd (0:Int) b.2 (spX b.1 d i)))]
   have:=Fx (B:=fun go (x:Int×List Int)=>f81_l4 op a b (0,d) go x.1 x.2) (fun k=>((k:Int),Kk N k (fun i=>f (rd (0:Int) a.2 (spX a.1 d i)) (rd (0:Int) b.2 (spX b.1 d i))))) N
    (Ga N (fun i=>f (rd (0:Int) a.2 (spX a.1 d i)) (rd (0:Int) b.2 (spX b.1 d i)))) ?_ ?_ (by omega)
   ·rw [show ((0:Nat):Int)=0 from rfl] at this
    rw [this];rfl
   ·intro k hk go
    simp only [hl,F9]
    obtain ⟨x0,x1⟩:=Jo J.fa k (by omega)
    obtain ⟨y0,y1⟩:=Jo J.fb k (by omega)
    have fa:=fromR J.fa k (by omega) (by omega)
    have fb:=fromR J.fb k (by omega) (by omega)
    rw [show accS a.1 d (k:Int) a.1.length=spX a.1 d k from rfl] at fa
    rw [show accS b.1 d (k:Int) b.1.length=spX b.1 d k from rfl] at fb
    rw [dT,cond_true,fa,A9,fb,A9]
    simp only
    obtain ⟨xn,hxn⟩:=Int.eq_ofNat_of_zero_le x0
    obtain ⟨yn,hyn⟩:=Int.eq_ofNat_of_zero_le y0
    have qa:=Jh ia xn (by omega)
    have qb:=Jh ib yn (by omega)
    rw [← hxn] at qa
    rw [← hyn] at qb
    rw [Bh,Bh,hF _ _ qa qb,A9,Bh,E9,Int.toNat_natCast,Gu N k _ _ hk rfl]
    rfl
   ·intro go
    simp only [hl,F9]
    rw [dF,cond_false,Gl]
  ·rw [if_neg hj,nT hj];rfl
 ·rw [if_neg hg]
  cases h1:Fu a <;> cases h2:Fu b <;> simp_all <;> rfl
theorem addR (a b:Tn) (ia:inI a.2) (ib:inI b.2):f81 0 a b=some (Jd addV a b):=
 eachG 0 addV f92 (fun x y hx hy=>rAdd x y hx.1 hx.2 hy.1 hy.2) (fun a b r go i l=>rfl) a b ia ib
theorem subR (a b:Tn) (ia:inI a.2) (ib:inI b.2):f81 1 a b=some (Jd subV a b):=
 eachG 1 subV f94 (fun x y hx hy=>rSub x y hx.1 hx.2 hy.1 hy.2) (fun a b r go i l=>rfl) a b ia ib
theorem mulR (a b:Tn) (ia:inI a.2) (ib:inI b.2):f81 2 a b=some (Jd K9 a b):=
 eachG 2 K9 f93 (fun x y hx hy=>rMul x y hx.1 hx.2 hy.1 hy.2) (fun a b r go i l=>rfl) a b ia ib
def scaleS (a:Tn) (k:Int):Int×Tn:=if Fu a=true then (0,a.1,Ga a.2.length (fun i=>K9 (rd (0:Int) a.2 i) k)) else (1,[],[])
theorem scaleP (a:Tn) (k:Int) (ia:inI a.2) (hk:InR k):f163 a k=some (scaleS a k):=scale_ok a k ia hk.1 hk.2
theorem scaleR (a:Tn) (k:Int) (ia:inI a.2) (hk:InR k):f124 a k=some (scaleS a k):=by
 unfold f124 scaleS
 rw [show ((a.1,a.2):Tn)=a from rfl,isR,A9]
 by_cases hg:Fu a=true
 ·obtain ⟨hp,hl,_,l2⟩:=Fw hg
  rw [if_pos hg,hg,Bool.not_true,cond_false,newR a.1 0 hp,A9]
  rw [show (prd a.1).toNat=a.2.length by omega]
  simp only
  rw [Gk _ (fun i=>K9 (rd (0:Int) a.2 i) k)]
  have:=Fx (B:=fun go (x:Int×List Int)=>f124_l1 a k go x.1 x.2) (fun j=>((j:Int),Kk a.2.length j (fun i=>K9 (rd (0:Int) a.2 i) k))) a.2.length (Ga a.2.length (fun i=>K9 (rd (0:Int) a.2 i) k)) ?_ ?_ (by omega)
  ·rw [show ((0:Nat):Int)=0 from rfl] at this
   rw [this];rfl
  ·intro j hj go
   unfold f124_l1
   simp only [F9]
   have q:=Jh ia j hj
   rw [dT,cond_true,Bh,rMul _ _ q.1 q.2 hk.1 hk.2,A9,Bh,E9,Int.toNat_natCast,Gu _ j (fun i=>K9 (rd (0:Int) a.2 i) k) (sat (rhe (rd (0:Int) a.2 (j:Int)*k))) hj rfl]
   rfl
  ·intro go
   unfold f124_l1
   simp only [F9]
   rw [dF,cond_false,Gl]
 ·rw [if_neg hg,show Fu a=false by simpa using hg];rfl
theorem totalR (a:Tn) (ia:inI a.2) (hl:a.2.length≤4096):∃ z,f214 a=some z∧Nm (PlR.sumL a.2) z:=by
 unfold f214
 have key:=Le (B:=fun go (x:Int×Bool×Int×Int×Int×Int)=>f214_l1 a go x.1 x.2.1 x.2.2.1 x.2.2.2.1 x.2.2.2.2.1 x.2.2.2.2.2)
  (fun k x=>x.1=(k:Int)∧Nm (PlR.sumL (a.2.take k)) x.2) (fun z=>Nm (PlR.sumL a.2) z) a.2.length ((0:Int),false,(0:Int),(0:Int),(0:Int),(0:Int)) ⟨rfl,nm_zero⟩ ?_ ?_ (by omega)
 ·obtain ⟨z,e,hz⟩:=key
  rw [e];exact ⟨_,rfl,hz⟩
 ·rintro k hk ⟨_,x⟩ ⟨rfl,hx⟩
  simp only at hx ⊢
  have q:=Jh ia k hk
  obtain ⟨y,ey,hy⟩:=from_ok _ q.1 q.2
  have hs:=PlR.sumL_bound 9223372036854775808 (by decide) (a.2.take k) (fun v hv=>by have:=ia v (List.mem_of_mem_take hv);omega)
  have hlt:(a.2.take k).length≤4096:=by rw [List.length_take];omega
  obtain ⟨z,ez,hz⟩:=plus_nm hx hy (by unfold Sm;omega) (by unfold Sm;omega)
  refine ⟨(((k+1:Nat):Int),z),fun go=>?_,rfl,?_⟩
  ·unfold f214_l1
   rw [dT,cond_true,Bh,ey,A9,ez,A9,E9]
   rfl
  ·have e:PlR.sumL (a.2.take (k+1))=PlR.sumL (a.2.take k)+rd (0:Int) a.2 (k:Int):=by
    rw [List.take_succ_eq_append_getElem hk,PlR.sumL_app,Gg _ _ _ hk]
    simp [PlR.sumL]
   simp only
   rw [e];exact hz
 ·rintro ⟨_,x⟩ ⟨rfl,hx⟩
  refine ⟨x,fun go=>?_,by simpa using hx⟩
  unfold f214_l1
  rw [dF (by simp only;omega)];rfl
theorem sum_sm (l:List Int) (il:inI l) (hl:l.length≤4096) : -37778931862957161709568≤PlR.sumL l∧PlR.sumL l≤37778931862957161709568:=by
 have:=PlR.sumL_bound 9223372036854775808 (by decide) l (fun v hv=>by have:=il v hv;omega)
 omega
theorem allR (a:Tn) (ia:inI a.2) (hl:a.2.length≤4096):f177 a=some (sat (PlR.sumL a.2)):=by
 unfold f177
 obtain ⟨z,e,hz⟩:=totalR a ia hl
 have:=sum_sm a.2 ia hl
 rw [show ((a.1,a.2):Tn)=a from rfl,e,A9,Ma hz (by unfold Sm;omega)];rfl
theorem allP (a:Tn) (ia:inI a.2) (hg:Fu a=true):f222 a=some (sat (PlR.sumL a.2),0):=by
 obtain ⟨_,_,_,hl⟩:=Fw hg
 unfold f222
 rw [show ((a.1,a.2):Tn)=a from rfl,F8,hg,A9,Bool.not_true,cond_false,PlR.total_ok a.2 ia hl,A9]
 rw [show ((PlV.pair (PlR.sumL a.2)).1,(PlV.pair (PlR.sumL a.2)).2)=PlV.pair (PlR.sumL a.2) from rfl,PlV.fix_ok _ (PlR.far_sum a.2 ia hl)]
 rfl
theorem meanR (a:Tn) (ia:inI a.2) (h1:1≤a.2.length) (hl:a.2.length≤4096):f178 a=some (sat (rdI (PlR.sumL a.2) a.2.length)):=by
 unfold f178
 obtain ⟨z,e,hz⟩:=totalR a ia hl
 have:=sum_sm a.2 ia hl
 obtain ⟨y,ey,hy,hs⟩:=divided_nm hz (by omega) (a.2.length:Int) (by omega) (by omega) (by omega)
 rw [show ((a.1,a.2):Tn)=a from rfl,e,A9,ey,A9,Ma hy hs];rfl
theorem meanP (a:Tn) (ia:inI a.2) (hg:Fu a=true):f223 a=some (sat (rdI (PlR.sumL a.2) a.2.length),0):=by
 obtain ⟨hp,hl1,_,hl⟩:=Fw hg
 have:=sum_sm a.2 ia hl
 unfold f223
 rw [show ((a.1,a.2):Tn)=a from rfl,F8,hg,A9,Bool.not_true,cond_false,PlR.total_ok a.2 ia hl,A9]
 rw [show ((PlV.pair (PlR.sumL a.2)).1,(PlV.pair (PlR.sumL a.2)).2)=PlV.pair (PlR.sumL a.2) from rfl,over_ok _ _ (by omega) (by omega) (by omega) (by omega) (by omega)]
 rfl
def bendV (kind x:Int):Int:=
 if kind=1 then (if x<0 then 0 else x)
 else if kind=2 then (if x>0 then x else sat (rdI (x*4294967296) 34359738368))
 else if kind=3 then (if x>4294967296 then 4294967296 else if x < -4294967296 then -4294967296 else x)
 else if kind=4 then (if x<0 then sat (-x) else x)
 else (if sat (sat (rdI (x*4294967296) 8589934592)+2147483648)<0 then 0 else if sat (sat (rdI (x*4294967296) 8589934592)+2147483648)>4294967296 then 4294967296 else sat (sat (rdI (x*4294967296) 8589934592)+2147483648))
theorem bendV_in (kind x:Int) (hx:InR x):InR (bendV kind x):=by
 have h1:=Jg (rdI (x*4294967296) 34359738368)
 have h2:=Jg (-x)
 have h3:=Jg (sat (rdI (x*4294967296) 8589934592)+2147483648)
 unfold bendV InR at *
 split
 ·split <;> omega
 ·split
  ·split <;> omega
  ·split
   ·split <;> (try split) <;> omega
   ·split
    ·split <;> omega
    ·split <;> (try split) <;> omega
theorem bendR (kind x:Int) (hx:InR x):f215 kind x=some (bendV kind x):=by
 have s1:=Jg (rdI (x*4294967296) 8589934592)
 unfold f215 bendV
 by_cases k1:kind=1
 ·rw [bT k1,if_pos k1,cond_true]
  by_cases h:x<0
  ·rw [dT h,if_pos h];rfl
  ·rw [dF h,if_neg h];rfl
 rw [bF k1,if_neg k1,cond_false]
 by_cases k2:kind=2
 ·rw [bT k2,if_pos k2,cond_true]
  by_cases h:x>0
  ·rw [dT h,if_pos h];rfl
  ·rw [dF h,if_neg h,cond_false,rOf8,A9,rDiv x _ hx.1 hx.2 (by decide) (by decide) (by decide)];rfl
 rw [bF k2,if_neg k2,cond_false]
 by_cases k3:kind=3
 ·rw [bT k3,if_pos k3,cond_true]
  by_cases h:x>4294967296
  ·rw [dT h,if_pos h];rfl
  ·rw [dF h,if_neg h,cond_false]
   by_cases h:x < -4294967296
   ·rw [dT h,if_pos h];rfl
   ·rw [dF h,if_neg h];rfl
 rw [bF k3,if_neg k3,cond_false]
 by_cases k4:kind=4
 ·rw [bT k4,if_pos k4,cond_true]
  by_cases h:x<0
  ·rw [dT h,if_pos h,cond_true,rNeg x hx.1 hx.2];rfl
  ·rw [dF h,if_neg h];rfl
 rw [bF k4,if_neg k4,cond_false,rOf2,A9,rDiv x _ hx.1 hx.2 (by decide) (by decide) (by decide),A9,rAdd _ _ s1.1 s1.2 (by decide) (by decide),A9]
 generalize sat (sat (rdI (x*4294967296) 8589934592)+2147483648)=y
 by_cases h:y<0
 ·rw [dT h,if_pos h];rfl
 ·rw [dF h,if_neg h,cond_false]
  by_cases h:y>4294967296
  ·rw [dT h,if_pos h];rfl
  ·rw [dF h,if_neg h];rfl
theorem pOf8:f243 8=some 34359738368:=by kernel_rfl
theorem pOf2:f243 2=some 8589934592:=by kernel_rfl
theorem negP (x:Int) (hx:InR x) (h:x<0):f245 x=some (sat (-x)):=by
 unfold InR at hx
 unfold f245 sat
 by_cases c:x=-9223372036854775808
 ·rw [bT c,iPo];rfl
 ·rw [bF c,iNo,iNo,cond_false,E9]
  congr 1;omega
theorem withinP (y lo hi:Int) (h:lo≤hi):f244 y lo hi=some (if y>hi then hi else if y<lo then lo else y):=by
 unfold f244
 congr 1
 split <;> (try split) <;> (try split) <;> (try split) <;> omega
theorem bendP (kind x:Int) (k0:1≤kind) (k5:kind≤5) (hx:InR x):f239 kind x=some (bendV kind x,0):=by
 have s1:=Jg (rdI (x*4294967296) 8589934592)
 unfold f239 bendV
 by_cases k1:kind=1
 ·rw [bT k1,if_pos k1,cond_true]
 rw [bF k1,if_neg k1,cond_false]
 by_cases k2:kind=2
 ·rw [bT k2,if_pos k2,cond_true]
  by_cases h:x>0
  ·rw [dT h,if_pos h];rfl
  ·rw [dF h,if_neg h,cond_false,pOf8,A9,fdiv_ok x _ hx.1 hx.2 (by decide) (by decide) (by decide)];rfl
 rw [bF k2,if_neg k2,cond_false]
 by_cases k3:kind=3
 ·rw [bT k3,if_pos k3,cond_true,withinP _ _ _ (by decide)];rfl
 rw [bF k3,if_neg k3,cond_false]
 by_cases k4:kind=4
 ·rw [bT k4,if_pos k4,cond_true]
  by_cases h:x<0
  ·rw [dT h,if_pos h,cond_true,negP x hx h];rfl
  ·rw [dF h,if_neg h];rfl
 rw [bF k4,if_neg k4,cond_false,bT (by omega),cond_true,pOf2,A9,fdiv_ok x _ hx.1 hx.2 (by decide) (by decide) (by decide),A9,addF_ok _ _ s1.1 s1.2 (by decide) (by decide),A9,withinP _ _ _ (by decide),A9]
 unfold addV
 generalize sat (sat (rdI (x*4294967296) 8589934592)+2147483648)=y
 congr 2
 split <;> (try split) <;> (try split) <;> omega
def Lx (kind:Int) (t:Tn):Int×Tn:=if 1≤kind∧kind≤5∧Fu t=true then (0,t.1,Ga t.2.length (fun i=>bendV kind (rd (0:Int) t.2 i))) else (1,[],[])
theorem bentR (kind:Int) (t:Tn) (it:inI t.2):f179 kind t=some (Lx kind t):=by
 unfold f179 Lx f179_j2 f179_j3
 rw [show ((t.1,t.2):Tn)=t from rfl,isR]
 by_cases h:1≤kind∧kind≤5∧Fu t=true
 ·obtain ⟨hp,hl,_,l2⟩:=Fw h.2.2
  rw [if_pos h,dF,cond_false,dF,cond_false,h.2.2]
  simp only [A9,Bool.not_true,cond_false,Fl]
  rw [newR t.1 0 hp,A9,show (prd t.1).toNat=t.2.length by omega]
  simp only
  rw [Gk _ (fun i=>bendV kind (rd (0:Int) t.2 i))]
  have:=Fx (B:=fun go (x:Int×List Int)=>f179_l4 kind t go x.1 x.2) (fun j=>((j:Int),Kk t.2.length j (fun i=>bendV kind (rd (0:Int) t.2 i)))) t.2.length (Ga t.2.length (fun i=>bendV kind (rd (0:Int) t.2 i))) ?_ ?_ (by omega)
  ·rw [show ((0:Nat):Int)=0 from rfl] at this
   rw [this];rfl
  ·intro j hj go
   unfold f179_l4
   simp only [F9]
   rw [dT,cond_true,Bh,bendR _ _ (Jh it j hj),A9,Bh,E9,Int.toNat_natCast,Gu _ j _ _ hj rfl]
   rfl
  ·intro go
   unfold f179_l4
   simp only [F9]
   rw [dF,cond_false,Gl]
 ·rw [if_neg h]
  by_cases h1:kind<1
  ·rw [dT h1];rfl
  ·rw [dF h1,cond_false]
   by_cases h2:kind>5
   ·rw [dT h2];rfl
   ·rw [dF h2,cond_false,show Fu t=false by cases ht:Fu t;rfl;exact absurd ⟨by omega,by omega,ht⟩ h];rfl
theorem bentP (kind:Int) (t:Tn) (it:inI t.2):f224 kind t=some (Lx kind t):=by
 unfold f224 Lx f224_j2 f224_j3 f205
 rw [show ((t.1,t.2):Tn)=t from rfl,F8]
 by_cases h:1≤kind∧kind≤5∧Fu t=true
 ·obtain ⟨hp,hl,l1,l2⟩:=Fw h.2.2
  rw [if_pos h,dT,cond_true,A9,dT (show kind≤5 by omega),h.2.2]
  simp only [A9,Bool.not_true,cond_false,Fl]
  rw [copy_t t (by omega) (by omega),A9]
  have:=Fx (B:=fun go (x:Int×List Int)=>f224_l4 kind t go x.1 x.2) (fun j=>((j:Int),Ga t.2.length (fun i=>if i<j then bendV kind (rd (0:Int) t.2 i) else rd (0:Int) t.2 i))) t.2.length (Ga t.2.length (fun i=>bendV kind (rd (0:Int) t.2 i))) ?_ ?_ (by omega)
  ·have e0:Ga t.2.length (fun i=>if i<0 then bendV kind (rd (0:Int) t.2 i) else rd (0:Int) t.2 i)=t.2:=by
    apply List.ext_getElem (Gb _ _)
    intro i h1 h2
    rw [tab_get,iNo,Gg _ _ _ h2]
   rw [show ((0:Nat):Int)=0 from rfl,e0] at this
   rw [this];rfl
  ·intro j hj go
   unfold f224_l4
   simp only [Gb]
   rw [dT,cond_true,Bh,bendP _ _ h.1 h.2.1 (Jh it j hj),A9,Bh,E9,Int.toNat_natCast,Ke]
   congr 1
   refine Prod.ext rfl (Ge _ _ _ (fun i hi=>?_))
   by_cases hik:i=j
   ·rw [if_pos hik,iPo,hik]
   ·rw [if_neg hik]
    by_cases h2:i<j
    ·rw [if_pos h2,iPo]
    ·rw [if_neg h2,iNo]
  ·intro go
   unfold f224_l4
   simp only
   rw [dF,cond_false]
   congr 1
   exact Ge _ _ _ (fun i hi=>by rw [if_pos hi])
 ·rw [if_neg h]
  by_cases h1:kind≥1
  ·rw [dT h1,cond_true,A9]
   by_cases h2:kind≤5
   ·rw [dT h2,Bool.not_true,cond_false,A9,show Fu t=false by cases ht:Fu t;rfl;exact absurd ⟨by omega,by omega,ht⟩ h];rfl
   ·rw [dF h2];rfl
  ·rw [dF h1];rfl
def Li (a:Tn) (d:List Int):Int×Tn:=if Fu a=true∧0<prd d then (if prd d=a.2.length then (0,d,a.2) else (4,[],[])) else (1,[],[])
theorem reshR (a:Tn) (d:List Int):f135 a d=some (Li a d):=by
 unfold f135 Li f135_j2 f135_j3
 rw [show ((a.1,a.2):Tn)=a from rfl,isR,goodR,sizeR]
 by_cases h:Fu a=true∧0<prd d
 ·obtain ⟨_,_,_,l2⟩:=Fw h.1
  have:=Gy h.2
  rw [if_pos h,h.1,dT (show prd d>0 from h.2)]
  simp only [A9,Bool.not_true,cond_false,Fl]
  by_cases h2:prd d=a.2.length
  ·rw [if_pos h2,nF h2,cond_false,Bh (by simp;omega),Bh (by simp;omega)];rfl
  ·rw [if_neg h2,nT h2];rfl
 ·rw [if_neg h]
  cases h1:Fu a
  ·rfl
  ·rw [dF (fun h3=>h ⟨h1,h3⟩)];rfl
theorem reshP (a:Tn) (d:List Int):f170 a d=some (Li a d):=by
 unfold f170 Li f170_j2 f170_j3
 rw [show ((a.1,a.2):Tn)=a from rfl,F8,Gn,PlB.size_ok]
 by_cases h:Fu a=true∧0<prd d
 ·obtain ⟨_,_,_,l2⟩:=Fw h.1
  have:=Gy h.2
  rw [if_pos h,h.1,dT (show prd d>0 from h.2)]
  simp only [A9,Bool.not_true,cond_false]
  by_cases h2:prd d=a.2.length
  ·rw [if_pos h2,nF h2,cond_false,A9,Fl,clone_d d (by omega),A9,clone_v a.2 (by omega)];rfl
  ·rw [if_neg h2,nT h2];rfl
 ·rw [if_neg h]
  cases h1:Fu a
  ·rfl
  ·rw [dF (fun h3=>h ⟨h1,h3⟩)];rfl
theorem sameP (a b:List Int) (h:a.length<4611686018427387904):f114 a b=some (decide (a=b)):=by
 unfold f114
 rw [show f159 a b=f62 a b from rfl,sameR a b h];rfl
def Kn (sp:Nat→Int) (V:List Int) (N:Nat):Nat→List Int
 | 0=>List.replicate N 0
 | k+1=>(Kn sp V N k).set (sp k).toNat (addV (rd (0:Int) (Kn sp V N k) (sp k)) (rd (0:Int) V (k:Int)))
theorem fold_len (sp:Nat→Int) (V:List Int) (N:Nat):∀ k,(Kn sp V N k).length=N
 | 0=>by simp [Kn]
 | k+1=>by simp only [Kn,List.length_set];exact fold_len sp V N k
theorem inI_set {l:List Int} (h:inI l) (i:Nat) (v:Int) (hv:InR v):inI (l.set i v):=fun x hx=>by
 rcases List.mem_or_eq_of_mem_set hx with h1 | h1
 ·exact h x h1
 ·rw [h1];exact hv
theorem inI_rep (n:Nat) (v:Int) (hv:InR v):inI (List.replicate n v):=fun x hx=>by
 rw [(List.mem_replicate.1 hx).2];exact hv
theorem fold_inI (sp:Nat→Int) (V:List Int) (N:Nat):∀ k,inI (Kn sp V N k)
 | 0=>inI_rep _ _ (by decide)
 | k+1=>by simp only [Kn];exact inI_set (fold_inI sp V N k) _ _ (Jg _)
def foldS (a:Tn) (d:List Int):Int×Tn:=
 if Fu a=true∧0<prd d then (if jS d a.1=(0,a.1) then (0,d,Kn (spX d a.1) a.2 (prd d).toNat a.2.length) else (4,[],[])) else (1,[],[])
theorem fold_j (r:Int×List Int) (d:List Int) (h:r.2.length<4611686018427387904) :
  (bif (r.1 != (0:Int)) then some true else D4 (some (decide (r.2=d))) fun r18=>some (!r18))=some (!decide (r=(0,d))):=by
 by_cases h1:r.1=0
 ·rw [nF h1,cond_false,A9]
  by_cases h2:r.2=d
  ·rw [dT h2,dT (show r=(0,d) from Prod.ext h1 h2)]
  ·rw [dF h2,dF (show ¬r=(0,d) from fun h=>h2 (by rw [h]))]
 ·rw [nT h1,dF (show ¬r=(0,d) from fun h=>h1 (by rw [h]))];rfl
theorem jS_len (a b:List Int) (ha:a.length≤4) (hb:b.length≤4):(jS a b).2.length≤4:=by
 have h1:Lf a b≤4:=by unfold Lf;split <;> omega
 have h2:(jL a b).length≤4:=by unfold jL;rw [Gb];exact h1
 unfold jS
 split
 ·cases anyB (Lf a b) (jBad a b)
  ·simp only [cond_false];split
   ·exact h2
   ·exact Nat.zero_le _
  ·exact Nat.zero_le _
 ·exact Nat.zero_le _
theorem foldP (a:Tn) (d:List Int) (ia:inI a.2):f160 a d=some (foldS a d):=by
 unfold f160 foldS f160_j2 f160_j3
 rw [show ((a.1,a.2):Tn)=a from rfl,F8,Gn]
 by_cases h:Fu a=true∧0<prd d
 ·obtain ⟨hp,hl,l1,l2⟩:=Fw h.1
  have ld:=Gy h.2
  have hr:=F2 d
  rw [if_pos h,h.1,dT (show prd d>0 from h.2),joinP]
  simp only [A9,Bool.not_true,cond_false,Fl]
  have hj:f160_j6 a (jS d a.1)=some (!decide (jS d a.1=(0,a.1))):=by
   unfold f160_j6
   have:=jS_len d a.1 ld l1
   rw [sameP _ _ (by omega)]
   exact fold_j _ _ (by omega)
  unfold f160_j5
  rw [hj,A9]
  by_cases h2:jS d a.1=(0,a.1)
  ·have F:=jS_fits.1 h2
   rw [if_pos h2,dT h2,Bool.not_true,cond_false,A9,Fl,Ky,if_pos h.2,A9,Kw F,A9]
   simp only
   rw [show (prd a.1).toNat=a.2.length by omega]
   have:=Fx (B:=fun go (x:Int×List Int)=>f160_l7 a (Ga a.2.length (spX d a.1)) go x.1 x.2) (fun k=>((k:Int),Kn (spX d a.1) a.2 (prd d).toNat k)) a.2.length (Kn (spX d a.1) a.2 (prd d).toNat a.2.length) ?_ ?_ (by omega)
   ·rw [show ((0:Nat):Int)=0 from rfl] at this
    rw [show List.replicate (prd d).toNat 0=Kn (spX d a.1) a.2 (prd d).toNat 0 from rfl,this];rfl
   ·intro k hk go
    unfold f160_l7
    simp only [fold_len,Gb]
    obtain ⟨s0,s1⟩:=Jo F k (by omega)
    obtain ⟨sn,hsn⟩:=Int.eq_ofNat_of_zero_le s0
    have q1:=Jh (fold_inI (spX d a.1) a.2 (prd d).toNat k) sn (by rw [fold_len];omega)
    rw [← hsn] at q1
    have q2:=Jh ia k hk
    rw [dT,cond_true,Kx _ _ _ _ hk,Bh,Bh,Bh,Bh,addF_ok _ _ q1.1 q1.2 q2.1 q2.2,A9,Bh,E9]
    rfl
   ·intro go
    unfold f160_l7
    simp only
    rw [dF,cond_false]
  ·rw [if_neg h2,dF h2];rfl
 ·rw [if_neg h]
  cases h1:Fu a
  ·rfl
  ·rw [dF (fun h3=>h ⟨h1,h3⟩)];rfl
theorem foldR (a:Tn) (d:List Int) (ia:inI a.2):f181 a d=some (foldS a d):=by
 unfold f181 foldS f181_j2 f181_j3
 rw [show ((a.1,a.2):Tn)=a from rfl,isR,goodR]
 by_cases h:Fu a=true∧0<prd d
 ·obtain ⟨hp,hl,l1,l2⟩:=Fw h.1
  have ld:=Gy h.2
  have hr:=F2 d
  rw [if_pos h,h.1,dT (show prd d>0 from h.2),joinR]
  simp only [A9,Bool.not_true,cond_false,Fl]
  have hj:f181_j6 a (jS d a.1)=some (!decide (jS d a.1=(0,a.1))):=by
   unfold f181_j6
   have:=jS_len d a.1 ld l1
   rw [sameR _ _ (by omega)]
   exact fold_j _ _ (by omega)
  unfold f181_j5
  rw [hj,A9]
  by_cases h2:jS d a.1=(0,a.1)
  ·have F:=jS_fits.1 h2
   rw [if_pos h2,dT h2,Bool.not_true,cond_false,A9,Fl,newR d 0 h.2,A9]
   simp only
   have:=Fx (B:=fun go (x:Int×List Int)=>f181_l7 a d go x.1 x.2) (fun k=>((k:Int),Kn (spX d a.1) a.2 (prd d).toNat k)) a.2.length (Kn (spX d a.1) a.2 (prd d).toNat a.2.length) ?_ ?_ (by omega)
   ·rw [show ((0:Nat):Int)=0 from rfl] at this
    rw [show List.replicate (prd d).toNat 0=Kn (spX d a.1) a.2 (prd d).toNat 0 from rfl,this];rfl
   ·intro k hk go
    unfold f181_l7
    simp only [fold_len]
    obtain ⟨s0,s1⟩:=Jo F k (by omega)
    obtain ⟨sn,hsn⟩:=Int.eq_ofNat_of_zero_le s0
    have q1:=Jh (fold_inI (spX d a.1) a.2 (prd d).toNat k) sn (by rw [fold_len];omega)
    rw [← hsn] at q1
    have q2:=Jh ia k hk
    have ef:=fromR F k (by omega) (by omega)
    rw [show accS d a.1 (k:Int) d.length=spX d a.1 k from rfl] at ef
    rw [dT,cond_true,ef,A9]
    simp only
    rw [Bh,Bh,rAdd _ _ q1.1 q1.2 q2.1 q2.2,A9,Bh,E9]
    rfl
   ·intro go
    unfold f181_l7
    simp only
    rw [dF,cond_false]
  ·rw [if_neg h2,dF h2];rfl
 ·rw [if_neg h]
  cases h1:Fu a
  ·rfl
  ·rw [dF (fun h3=>h ⟨h1,h3⟩)];rfl
def Kl (kind x:Int):Int:=
 if kind=1 then (if x>0 then 4294967296 else 0)
 else if kind=2 then (if x>0 then 4294967296 else 536870912)
 else if kind=3 then (if x > -4294967296∧x<4294967296 then 4294967296 else 0)
 else if kind=4 then (if x>0 then 4294967296 else if x<0 then -4294967296 else 0)
 else (if x > -4294967296∧x<4294967296 then 2147483648 else 0)
theorem slope_in (kind x:Int):InR (Kl kind x):=by
 unfold Kl InR
 repeat' split
 all_goals omega
theorem oneP (b:Bool) (x y:Int):f229 b x y=some (if b=true then x else y):=by cases b <;> rfl
theorem slopeP (kind x:Int) (k0:1≤kind) (k5:kind≤5):f206 kind x=some (Kl kind x,0):=by
 unfold f206 Kl
 have hj:f206_j1 x=some (decide (x > -4294967296∧x<4294967296)):=by
  unfold f206_j1
  by_cases h:x > -4294967296
  ·rw [dT h,cond_true];congr 1;rw [decide_eq_decide];omega
  ·rw [dF h,dF (show ¬(x > -4294967296∧x<4294967296) from fun hh=>h hh.1)];rfl
 rw [hj]
 simp only [A9,oneP,decide_eq_true_eq]
 by_cases k1:kind=1
 ·rw [bT k1,if_pos k1];rfl
 rw [bF k1,if_neg k1,cond_false]
 by_cases k2:kind=2
 ·rw [bT k2,if_pos k2];rfl
 rw [bF k2,if_neg k2,cond_false]
 by_cases k3:kind=3
 ·rw [bT k3,if_pos k3];rfl
 rw [bF k3,if_neg k3,cond_false]
 by_cases k4:kind=4
 ·rw [bT k4,if_pos k4,cond_true]
  unfold f230
  by_cases h:x<0
  ·rw [dT h,iNo,if_pos h];rfl
  ·rw [dF h,cond_false]
   by_cases h1:x>0
   ·rw [dT h1,if_pos h1];rfl
   ·rw [dF h1,if_neg h1,if_neg h];rfl
 rw [bF k4,if_neg k4,cond_false,bT (by omega)];rfl
def unbentS (kind:Int) (t g:Tn):Int×Tn:=
 if 1≤kind∧kind≤5∧Fu t=true∧Fu g=true then (if t.1=g.1 then (0,t.1,Ga t.2.length (fun i=>K9 (rd (0:Int) g.2 i) (Kl kind (rd (0:Int) t.2 i)))) else (4,[],[])) else (1,[],[])
theorem unbentP (kind:Int) (t g:Tn) (ig:inI g.2):f167 kind t g=some (unbentS kind t g):=by
 unfold f167 unbentS f167_j2 f167_j3 f205
 rw [show ((t.1,t.2):Tn)=t from rfl,show ((g.1,g.2):Tn)=g from rfl,F8,F8]
 by_cases h:1≤kind∧kind≤5∧Fu t=true∧Fu g=true
 ·obtain ⟨hp,hl,l1,l2⟩:=Fw h.2.2.1
  obtain ⟨gp,gl,m1,m2⟩:=Fw h.2.2.2
  rw [if_pos h,dT (show kind≥1 by omega),cond_true,A9,dT (show kind≤5 by omega),h.2.2.1,h.2.2.2,sameP _ _ (by omega)]
  simp only [A9,Bool.not_true,cond_false]
  by_cases h2:t.1=g.1
  ·have hlen:g.2.length=t.2.length:=by rw [h2] at hl;omega
   rw [if_pos h2,dT h2,Bool.not_true,cond_false,A9,Fl,copy_t g (by omega) (by omega),A9]
   have:=Fx (B:=fun go (x:Int×List Int)=>f167_l4 kind t g go x.1 x.2) (fun j=>((j:Int),Ga t.2.length (fun i=>if i<j then K9 (rd (0:Int) g.2 i) (Kl kind (rd (0:Int) t.2 i)) else rd (0:Int) g.2 i))) t.2.length (Ga t.2.length (fun i=>K9 (rd (0:Int) g.2 i) (Kl kind (rd (0:Int) t.2 i)))) ?_ ?_ (by omega)
   ·have e0:Ga t.2.length (fun i=>if i<0 then K9 (rd (0:Int) g.2 i) (Kl kind (rd (0:Int) t.2 i)) else rd (0:Int) g.2 i)=g.2:=by
     apply List.ext_getElem (by rw [Gb,hlen])
     intro i h1 h2
     rw [tab_get,iNo,Gg _ _ _ h2]
    rw [show ((0:Nat):Int)=0 from rfl,e0] at this
    rw [this,A9,h2]
   ·intro j hj go
    unfold f167_l4
    simp only [Gb]
    have q:=Jh ig j (by omega)
    have s:=slope_in kind (rd (0:Int) t.2 j)
    rw [dT,cond_true,Bh,slopeP _ _ h.1 h.2.1,A9,Bh,mulF_ok _ _ q.1 q.2 s.1 s.2,A9,Bh,E9,Int.toNat_natCast,Ke]
    congr 1
    refine Prod.ext rfl (Ge _ _ _ (fun i hi=>?_))
    by_cases hik:i=j
    ·rw [if_pos hik,iPo,hik]
    ·rw [if_neg hik]
     by_cases h2:i<j
     ·rw [if_pos h2,iPo]
     ·rw [if_neg h2,iNo]
   ·intro go
    unfold f167_l4
    simp only
    rw [dF,cond_false]
    congr 1
    exact Ge _ _ _ (fun i hi=>by rw [if_pos hi])
  ·rw [if_neg h2,dF h2];rfl
 ·rw [if_neg h]
  by_cases h1:kind≥1
  ·rw [dT h1,cond_true,A9]
   by_cases h2:kind≤5
   ·rw [dT h2]
    cases ht:Fu t
    ·rfl
    ·cases hgg:Fu g
     ·rfl
     ·exact absurd ⟨h1,h2,ht,hgg⟩ h
   ·rw [dF h2];rfl
  ·rw [dF h1];rfl
end Go.Proofs.Op
namespace Go.Proofs.Cv
open Go.AM Go.Proofs.PlB Go.Proofs.PlW Go.Proofs.PlT Go.Proofs.PlS Go.Proofs.Sh Go.Proofs.Num Go.Proofs.Div Go.Proofs.Op
def sg (F:Nat→Int):Nat→Int
 | 0=>0
 | k+1=>sg F k+F k
theorem L6 {F G:Nat→Int}:∀ n,(∀ k,k<n→F k=G k)→sg F n=sg G n
 | 0,_=>rfl
 | n+1,h=>by simp only [sg];rw [L6 n (fun k hk=>h k (by omega)),h n (by omega)]
def Pb (x:Int):Prop:=-85070591730234615865843651857942052864≤x∧x≤85070591730234615865843651857942052864
theorem pb_mul {a b:Int} (ha:InR a) (hb:InR b):Pb (a*b):=prodBnd a b ha.1 ha.2 hb.1 hb.2
theorem sg_bd (F:Nat→Int):∀ n,(∀ k,k<n→Pb (F k))→-(n*85070591730234615865843651857942052864)≤sg F n∧sg F n≤n*85070591730234615865843651857942052864
 | 0,_=>by simp [sg]
 | n+1,h=>by
  have:=sg_bd F n (fun k hk=>h k (by omega))
  have h2:=h n (by omega)
  unfold Pb at h2
  simp only [sg]
  constructor <;> omega
theorem sg_sm (F:Nat→Int) (n:Nat) (hn:n≤4096) (h:∀ k,k<n→Pb (F k)) : -1000000000000000000000000000000000000000000≤sg F n∧sg F n≤1000000000000000000000000000000000000000000:=by
 have:=sg_bd F n h
 omega
def acc (S:Int):Int×Int×Int:=(S/340282366920938463463374607431768211456,IntKind.i64.wrap (S/18446744073709551616),S%18446744073709551616)
theorem acc_zero:acc 0=(0,0,0):=by
 unfold acc
 rw [show (0:Int)/340282366920938463463374607431768211456=0 by omega,show (0:Int)/18446744073709551616=0 by omega,show (0:Int)%18446744073709551616=0 by omega,E9]
theorem acc_plus (S a b:Int) (hs : -1000000000000000000000000000000000000000000≤S∧S≤1000000000000000000000000000000000000000000) (ha:InR a) (hb:InR b) :
  f211 (acc S).1 (acc S).2.1 (acc S).2.2 a b=some (acc (S+a*b)):=plus_ok S a b (by omega) (by omega) ha.1 ha.2 hb.1 hb.2
theorem acc_fix (S:Int) (hs : -1000000000000000000000000000000000000000000≤S∧S≤1000000000000000000000000000000000000000000) :
  ∃ z,f212 (acc S).1 (acc S).2.1 (acc S).2.2 32=some (sat (rhe S),z):=by
 obtain ⟨x,y,z,e⟩:=accFix_ok S (by omega) (by omega)
 exact ⟨_,e⟩
theorem progdot {B:(Int×Int×Int×Int→Option (Int×Int×Int))→Int×Int×Int×Int→Option (Int×Int×Int)} (F:Nat→Int) (m n:Nat) (a b:Nat→Int) (hmn:m+n≤4096)
  (hF:∀ k,k<n→F (m+k)=a k*b k) (ha:∀ k,k<n→InR (a k)) (hb:∀ k,k<n→InR (b k)) (hp:∀ t,t<m+n→Pb (F t))
  (hs:∀ k,k<n→∀ z go,B go ((k:Int),z)=D4 (f211 z.1 z.2.1 z.2.2 (a k) (b k)) fun q=>go (((k+1:Nat):Int),q))
  (he:∀ z go,B go ((n:Int),z)=some z):Fp B Fq ((0:Int),acc (sg F m))=some (acc (sg F (m+n))):=by
 refine Fx (B:=B) (fun k=>((k:Int),acc (sg F (m+k)))) n (acc (sg F (m+n))) ?_ ?_ (by omega)
 ·intro k hk go
  rw [hs k hk,acc_plus _ _ _ (sg_sm F (m+k) (by omega) (fun t ht=>hp t (by omega))) (ha k hk) (hb k hk),A9,← hF k hk]
  rfl
 ·intro go;exact he _ go
theorem refdot {B:(Int×Bool×Int×Int×Int×Int→Option (Bool×Int×Int×Int×Int))→Int×Bool×Int×Int×Int×Int→Option (Bool×Int×Int×Int×Int)} (F:Nat→Int) (m n:Nat) (a b:Nat→Int) (hmn:m+n≤4096)
  (hF:∀ k,k<n→F (m+k)=a k*b k) (ha:∀ k,k<n→InR (a k)) (hb:∀ k,k<n→InR (b k)) (hp:∀ t,t<m+n→Pb (F t))
  (hs:∀ k,k<n→∀ z go,B go ((k:Int),z)=D4 (f149 (a k) (b k)) fun q=>D4 (f83 z.1 z.2.1 z.2.2.1 z.2.2.2.1 z.2.2.2.2 q.1 q.2.1 q.2.2.1 q.2.2.2.1 q.2.2.2.2) fun q=>go (((k+1:Nat):Int),q))
  (he:∀ z go,B go ((n:Int),z)=some z) (x:Bool×Int×Int×Int×Int) (hx:Nm (sg F m) x):∃ z,Fp B Fq ((0:Int),x)=some z∧Nm (sg F (m+n)) z:=by
 refine Le (B:=B) (fun k y=>y.1=(k:Int)∧Nm (sg F (m+k)) y.2) (fun z=>Nm (sg F (m+n)) z) n ((0:Int),x) ⟨rfl,hx⟩ ?_ ?_ (by omega)
 ·rintro k hk ⟨_,y⟩ ⟨rfl,hy⟩
  simp only at hy
  have qa:=ha k hk
  have qb:=hb k hk
  obtain ⟨t,et,ht⟩:=times_nm (a k) (b k) qa.1 qa.2 qb.1 qb.2
  have s1:=sg_sm F (m+k) (by omega) (fun t ht=>hp t (by omega))
  have s2:=pb_mul qa qb
  unfold Pb at s2
  have t1:Sm (sg F (m+k)):=by unfold Sm;omega
  have t2:Sm (a k*b k):=by unfold Sm;omega
  obtain ⟨z,ez,hz⟩:=plus_nm hy ht t1 t2
  refine ⟨(((k+1:Nat):Int),z),fun go=>?_,rfl,?_⟩
  ·rw [hs k hk,et,A9,ez,A9]
  ·rw [← hF k hk] at hz;exact hz
 ·rintro ⟨_,y⟩ ⟨rfl,hy⟩
  exact ⟨y,fun go=>he y go,hy⟩
theorem ref_end {S:Int} {x:Bool×Int×Int×Int×Int} (hx:Nm S x) (hs : -1000000000000000000000000000000000000000000≤S∧S≤1000000000000000000000000000000000000000000) :
  ∃ z,f148 x.1 x.2.1 x.2.2.1 x.2.2.2.1 x.2.2.2.2 32=some z∧f129 z.1 z.2.1 z.2.2.1 z.2.2.2.1 z.2.2.2.2=some (sat (rhe S)):=by
 obtain ⟨z,ez,hz⟩:=halved_nm hx (by unfold Sm;omega)
 exact ⟨z,ez,Ma hz (sm_rhe hs)⟩
theorem wnat {n:Nat} (h:n<1000000000):IntKind.i64.wrap (n:Int)=(n:Int):=E9 (by omega) (by omega)
theorem wmul (a b:Nat) (h:a*b<1000000000):IntKind.i64.wrap ((a:Int)*b)=((a*b:Nat):Int):=by rw [← Int.natCast_mul];exact wnat h
theorem wadd (a b:Nat) (h:a+b<1000000000):IntKind.i64.wrap ((a:Int)+b)=((a+b:Nat):Int):=by rw [← Int.natCast_add];exact wnat h
theorem Gh (a:Nat) (h:a<100000000:=by omega):IntKind.i64.wrap ((a:Int)+1)=((a+1:Nat):Int):=wadd a 1 (by omega)
theorem ixA (x L n s y:Nat) (h:x*L+n*s+y<1000000):IntKind.i64.wrap (IntKind.i64.wrap (IntKind.i64.wrap ((x:Int)*L)+IntKind.i64.wrap ((n:Int)*s))+y)=((x*L+n*s+y:Nat):Int):=by
 rw [wmul x L (by omega),wmul n s (by omega),wadd _ _ (by omega),wadd _ _ (by omega)]
theorem ixM (i c x:Nat) (h:i*c+x<1000000):IntKind.i64.wrap (IntKind.i64.wrap ((i:Int)*c)+x)=((i*c+x:Nat):Int):=by
 rw [wmul i c (by omega),wadd _ _ (by omega)]
theorem ixK (i c x w y:Nat) (hw:1≤w) (h:(i*c+x)*w+y<1000000):IntKind.i64.wrap (IntKind.i64.wrap (IntKind.i64.wrap (IntKind.i64.wrap ((i:Int)*c)+x)*w)+y)=(((i*c+x)*w+y:Nat):Int):=by
 have:i*c+x≤(i*c+x)*w:=Nat.le_mul_of_pos_right _ hw
 rw [ixM i c x (by omega),wmul _ _ (by omega),wadd _ _ (by omega)]
theorem rdIn {l:List Int} (h:inI l) {i:Nat} (hi:i<l.length):InR (rd (0:Int) l (i:Int)):=Jh h i hi
theorem Jm {x y c L:Nat} (hx:x<c) (hy:y<L):x*L+y<c*L:=by
 have:(x+1)*L≤c*L:=Nat.mul_le_mul_right _ hx
 rw [Nat.add_mul,Nat.one_mul] at this
 omega
theorem K5 {x y L:Nat} (hy:y<L):(x*L+y)/L=x∧(x*L+y)%L=y:=by
 have h0:0<L:=by omega
 constructor
 ·rw [Nat.mul_comm,Nat.mul_add_div h0,Nat.div_eq_of_lt hy,Nat.add_zero]
 ·rw [Nat.mul_comm,Nat.mul_add_mod,Nat.mod_eq_of_lt hy]
def F7 (L w s:Nat):Nat:=(L-w)/s+1
def rowF (A K:List Int) (c L w s i n t:Nat):Int:=rd (0:Int) A ((t/w*L+n*s+t%w:Nat):Int)*rd (0:Int) K ((i*(c*w)+t:Nat):Int)
def rowV (A K:List Int) (c L w s q:Nat):Int:=sat (rhe (sg (rowF A K c L w s (q/F7 L w s) (q%F7 L w s)) (c*w)))
theorem step_in {L w s n y:Nat} (hw:w≤L) (hn:n<F7 L w s) (hy:y<w) (hs:1≤s):n*s+y<L:=by
 unfold F7 at hn
 have h1:n≤(L-w)/s:=by omega
 have h2:n*s≤(L-w)/s*s:=Nat.mul_le_mul_right _ h1
 have h3:(L-w)/s*s≤L-w:=Nat.div_mul_le_self _ _
 omega
theorem prod3 {o c w:Int} (h:0<prd [o,c,w]):1≤o∧1≤c∧1≤w∧prd [o,c,w]=o*(c*w):=by
 obtain ⟨e,h1,_⟩:=Gw h
 refine ⟨(h1 o (by simp)).1,(h1 c (by simp)).1,(h1 w (by simp)).1,?_⟩
 rw [e];simp [Ft]
theorem prod2 {c L:Int} (h:0<prd [c,L]):1≤c∧1≤L∧prd [c,L]=c*L:=by
 obtain ⟨e,h1,_⟩:=Gw h
 refine ⟨(h1 c (by simp)).1,(h1 L (by simp)).1,?_⟩
 rw [e];simp [Ft]
section
variable (A K:List Int) (c L o w s:Nat) (c1:1≤c) (w1:1≤w) (hA:A.length=c*L) (hK:K.length=o*(c*w)) (bA:c*L≤4096) (bK:o*(c*w)≤4096) (hw:w≤L) (s1:1≤s) (s64:s≤64) (iA:inI A) (iK:inI K)
include c1 w1 hA hK bA bK hw s1 s64 iA iK
theorem row_a {n x y:Nat} (hn:n<F7 L w s) (hx:x<c) (hy:y<w):x*L+n*s+y<A.length:=by
 have h1:=step_in hw hn hy s1
 have h2:=Jm (c:=c) hx h1
 rw [hA];omega
theorem row_k {i x y:Nat} (hi:i<o) (hx:x<c) (hy:y<w):(i*c+x)*w+y<K.length∧(i*c+x)*w+y=i*(c*w)+(x*w+y):=by
 have e:(i*c+x)*w+y=i*(c*w)+(x*w+y):=by rw [Nat.add_mul,Nat.mul_assoc];omega
 refine ⟨?_,e⟩
 rw [e,hK]
 exact Jm hi (Jm hx hy)
theorem row_f {i n x y:Nat} (hy:y<w):rowF A K c L w s i n (x*w+y)=rd (0:Int) A ((x*L+n*s+y:Nat):Int)*rd (0:Int) K (((i*c+x)*w+y:Nat):Int):=by
 unfold rowF
 obtain ⟨d1,d2⟩:=K5 (x:=x) hy
 have e:(i*c+x)*w+y=i*(c*w)+(x*w+y):=by rw [Nat.add_mul,Nat.mul_assoc];omega
 rw [d1,d2,e]
theorem row_p {i n t:Nat} (hi:i<o) (hn:n<F7 L w s) (ht:t<c*w):Pb (rowF A K c L w s i n t):=by
 have hx:t/w<c:=Nat.div_lt_of_lt_mul (by rw [Nat.mul_comm];exact ht)
 have hy:t%w<w:=Nat.mod_lt _ w1
 have e:t/w*w+t%w=t:=by rw [Nat.mul_comm];exact Nat.div_add_mod t w
 have:=row_f A K c L o w s c1 w1 hA hK bA bK hw s1 s64 iA iK (i:=i) (n:=n) (x:=t/w) hy
 rw [e] at this
 rw [this]
 exact pb_mul (rdIn iA (row_a A K c L o w s c1 w1 hA hK bA bK hw s1 s64 iA iK hn hx hy)) (rdIn iK (row_k A K c L o w s c1 w1 hA hK bA bK hw s1 s64 iA iK hi hx hy).1)
theorem row_cw (ho:1≤o):c*w≤4096:=Nat.le_trans (Nat.le_mul_of_pos_left _ ho) bK
theorem row_sumP (q:Nat) (hq:q<o*F7 L w s) :
  Fp (fun go (x:Int×Int×Int×Int)=>f219_l17 ([(c:Int),(L:Int)],A) ([(o:Int),(c:Int),(w:Int)],K) s (F7 L w s:Int) (q:Int) go x.1 x.2.1 x.2.2.1 x.2.2.2) Fq ((0:Int),(0:Int),(0:Int),(0:Int))
   = some (acc (sg (rowF A K c L w s (q/F7 L w s) (q%F7 L w s)) (c*w))):=by
 have m1:1≤F7 L w s:=Nat.le_add_left 1 _
 have ho:1≤o:=Nat.pos_of_ne_zero (fun h=>by rw [h,Nat.zero_mul] at hq;exact absurd hq (Nat.not_lt_zero _))
 have hcw:=row_cw A K c L o w s c1 w1 hA hK bA bK hw s1 s64 iA iK ho
 have hi:q/F7 L w s<o:=Nat.div_lt_of_lt_mul (by rw [Nat.mul_comm];exact hq)
 have hn:q%F7 L w s<F7 L w s:=Nat.mod_lt _ m1
 have eI:IntKind.i64.wrap (Int.tdiv (q:Int) (F7 L w s:Int))=((q/F7 L w s:Nat):Int):=by
  rw [Int.tdiv_eq_ediv_of_nonneg (by omega),← Int.natCast_ediv]
  have:q/F7 L w s≤q:=Nat.div_le_self _ _
  have hl:F7 L w s≤4097:=by unfold F7;have:=Nat.div_le_self (L-w) s;have:L≤c*L:=Nat.le_mul_of_pos_left _ c1;omega
  have:o≤o*(c*w):=Nat.le_mul_of_pos_right _ (Nat.mul_pos c1 w1)
  exact wnat (by omega)
 have eN:Int.tmod (q:Int) (F7 L w s:Int)=((q%F7 L w s:Nat):Int):=by
  rw [Int.tmod_eq_emod_of_nonneg (by omega),← Int.natCast_emod]
 generalize q/F7 L w s=i at *
 generalize q%F7 L w s=n at *
 have h:=Fx (B:=fun go (x:Int×Int×Int×Int)=>f219_l17 ([(c:Int),(L:Int)],A) ([(o:Int),(c:Int),(w:Int)],K) s (F7 L w s:Int) (q:Int) go x.1 x.2.1 x.2.2.1 x.2.2.2)
  (fun x=>((x:Int),acc (sg (rowF A K c L w s i n) (x*w)))) c (acc (sg (rowF A K c L w s i n) (c*w))) ?_ ?_ (by have:c≤c*w:=Nat.le_mul_of_pos_right _ w1;omega)
 ·rw [Nat.zero_mul] at h
  have e0:acc (sg (rowF A K c L w s i n) 0)=((0:Int),(0:Int),(0:Int)):=acc_zero
  rw [e0] at h
  exact h
 ·intro x hx go
  have hc:c≤c*w:=Nat.le_mul_of_pos_right _ w1
  unfold f219_l17
  simp only
  rw [show rd (0:Int) [(c:Int),(L:Int)] 0=(c:Int) from rfl,dT,cond_true]
  have hxw:x*w+w≤c*w:=by have:=Nat.mul_le_mul_right w (show x+1≤c from hx);rw [Nat.add_mul,Nat.one_mul] at this;exact this
  have K2:=progdot (B:=fun go (z:Int×Int×Int×Int)=>f219_l18 ([(c:Int),(L:Int)],A) ([(o:Int),(c:Int),(w:Int)],K) s (F7 L w s:Int) (q:Int) (x:Int) go z.1 z.2.1 z.2.2.1 z.2.2.2)
   (rowF A K c L w s i n) (x*w) w (fun y=>rd (0:Int) A ((x*L+n*s+y:Nat):Int)) (fun y=>rd (0:Int) K (((i*c+x)*w+y:Nat):Int)) (by omega)
   (fun y hy=>row_f A K c L o w s c1 w1 hA hK bA bK hw s1 s64 iA iK hy)
   (fun y hy=>rdIn iA (row_a A K c L o w s c1 w1 hA hK bA bK hw s1 s64 iA iK hn hx hy)) (fun y hy=>rdIn iK (row_k A K c L o w s c1 w1 hA hK bA bK hw s1 s64 iA iK hi hx hy).1)
   (fun t ht=>row_p A K c L o w s c1 w1 hA hK bA bK hw s1 s64 iA iK hi hn (by omega)) ?_ ?_
  ·have e:sg (rowF A K c L w s i n) (x*w+w)=sg (rowF A K c L w s i n) ((x+1)*w):=by rw [Nat.add_mul,Nat.one_mul]
   rw [e] at K2
   have inner':Fp (fun go (z:Int×Int×Int×Int)=>f219_l18 ([(c:Int),(L:Int)],A) ([(o:Int),(c:Int),(w:Int)],K) s (F7 L w s:Int) (q:Int) (x:Int) go z.1 z.2.1 z.2.2.1 z.2.2.2) Fq ((0:Int),(acc (sg (rowF A K c L w s i n) (x*w))).1,(acc (sg (rowF A K c L w s i n) (x*w))).2.1,(acc (sg (rowF A K c L w s i n) (x*w))).2.2)=_:=K2
   rw [inner',A9,Gh x]
  ·intro y hy z go
   have ha:=row_a A K c L o w s c1 w1 hA hK bA bK hw s1 s64 iA iK hn hx hy
   have hk:=(row_k A K c L o w s c1 w1 hA hK bA bK hw s1 s64 iA iK hi hx hy).1
   unfold f219_l18
   simp only
   rw [show rd (0:Int) [(o:Int),(c:Int),(w:Int)] 2=(w:Int) from rfl,show rd (0:Int) [(c:Int),(L:Int)] 1=(L:Int) from rfl,show rd (0:Int) [(c:Int),(L:Int)] 0=(c:Int) from rfl,dT,cond_true,eI,eN,
    ixA x L n s y (by omega),ixK i c x w y w1 (by omega),Bh,Bh,Gh y]
  ·intro z go
   unfold f219_l18
   simp only
   rw [show rd (0:Int) [(o:Int),(c:Int),(w:Int)] 2=(w:Int) from rfl,dF,cond_false]
 ·intro go
  unfold f219_l17
  simp only
  rw [show rd (0:Int) [(c:Int),(L:Int)] 0=(c:Int) from rfl,dF,cond_false]
theorem row_sumR (i n:Nat) (hi:i<o) (hn:n<F7 L w s) :
  ∃ z,Fp (fun go (x:Int×Bool×Int×Int×Int×Int)=>f180_l45 ([(c:Int),(L:Int)],A) ([(o:Int),(c:Int),(w:Int)],K) s (i:Int) (n:Int) go x.1 x.2.1 x.2.2.1 x.2.2.2.1 x.2.2.2.2.1 x.2.2.2.2.2) Fq ((0:Int),false,(0:Int),(0:Int),(0:Int),(0:Int))=some z∧
   Nm (sg (rowF A K c L w s i n) (c*w)) z:=by
 have ho:1≤o:=by omega
 have hcw:=row_cw A K c L o w s c1 w1 hA hK bA bK hw s1 s64 iA iK ho
 have hc:c≤c*w:=Nat.le_mul_of_pos_right _ w1
 refine Le (B:=fun go (x:Int×Bool×Int×Int×Int×Int)=>f180_l45 ([(c:Int),(L:Int)],A) ([(o:Int),(c:Int),(w:Int)],K) s (i:Int) (n:Int) go x.1 x.2.1 x.2.2.1 x.2.2.2.1 x.2.2.2.2.1 x.2.2.2.2.2)
  (fun x y=>y.1=(x:Int)∧Nm (sg (rowF A K c L w s i n) (x*w)) y.2) (fun z=>Nm (sg (rowF A K c L w s i n) (c*w)) z) c _ ⟨rfl,by rw [Nat.zero_mul];exact nm_zero⟩ ?_ ?_ (by omega)
 ·rintro x hx ⟨_,u⟩ ⟨rfl,hu⟩
  simp only at hu
  have hxw:x*w+w≤c*w:=by have:=Nat.mul_le_mul_right w (show x+1≤c from hx);rw [Nat.add_mul,Nat.one_mul] at this;exact this
  obtain ⟨z,ez,hz⟩:=refdot (B:=fun go (z:Int×Bool×Int×Int×Int×Int)=>f180_l46 ([(c:Int),(L:Int)],A) ([(o:Int),(c:Int),(w:Int)],K) s (i:Int) (n:Int) (x:Int) go z.1 z.2.1 z.2.2.1 z.2.2.2.1 z.2.2.2.2.1 z.2.2.2.2.2)
   (rowF A K c L w s i n) (x*w) w (fun y=>rd (0:Int) A ((x*L+n*s+y:Nat):Int)) (fun y=>rd (0:Int) K (((i*c+x)*w+y:Nat):Int)) (by omega)
   (fun y hy=>row_f A K c L o w s c1 w1 hA hK bA bK hw s1 s64 iA iK hy)
   (fun y hy=>rdIn iA (row_a A K c L o w s c1 w1 hA hK bA bK hw s1 s64 iA iK hn hx hy)) (fun y hy=>rdIn iK (row_k A K c L o w s c1 w1 hA hK bA bK hw s1 s64 iA iK hi hx hy).1)
   (fun t ht=>row_p A K c L o w s c1 w1 hA hK bA bK hw s1 s64 iA iK hi hn (by omega)) (by
    intro y hy z go
    have ha:=row_a A K c L o w s c1 w1 hA hK bA bK hw s1 s64 iA iK hn hx hy
    have hk:=(row_k A K c L o w s c1 w1 hA hK bA bK hw s1 s64 iA iK hi hx hy).1
    unfold f180_l46
    simp only
    rw [show rd (0:Int) [(o:Int),(c:Int),(w:Int)] 2=(w:Int) from rfl,show rd (0:Int) [(c:Int),(L:Int)] 1=(L:Int) from rfl,show rd (0:Int) [(c:Int),(L:Int)] 0=(c:Int) from rfl,dT,cond_true,
     ixA x L n s y (by omega),ixK i c x w y w1 (by omega),Bh,Bh,Gh y]) (by
    intro z go
    unfold f180_l46
    simp only
    rw [show rd (0:Int) [(o:Int),(c:Int),(w:Int)] 2=(w:Int) from rfl,dF,cond_false]) u hu
  refine ⟨(((x+1:Nat):Int),z),fun go=>?_,rfl,by simp only;rw [Nat.add_mul,Nat.one_mul];exact hz⟩
  unfold f180_l45
  simp only
  have ez':Fp (fun go (z:Int×Bool×Int×Int×Int×Int)=>f180_l46 ([(c:Int),(L:Int)],A) ([(o:Int),(c:Int),(w:Int)],K) s (i:Int) (n:Int) (x:Int) go z.1 z.2.1 z.2.2.1 z.2.2.2.1 z.2.2.2.2.1 z.2.2.2.2.2) Fq ((0:Int),u.1,u.2.1,u.2.2.1,u.2.2.2.1,u.2.2.2.2)=some z:=ez
  rw [show rd (0:Int) [(c:Int),(L:Int)] 0=(c:Int) from rfl,dT,cond_true,ez',A9,Gh x]
 ·rintro ⟨_,u⟩ ⟨rfl,hu⟩
  refine ⟨u,fun go=>?_,hu⟩
  unfold f180_l45
  simp only
  rw [show rd (0:Int) [(c:Int),(L:Int)] 0=(c:Int) from rfl,dF,cond_false]
end
theorem win_eq (L w s:Nat) (hw:w≤L) (hl:L≤100000):IntKind.i64.wrap (IntKind.i64.wrap (Int.tdiv (IntKind.i64.wrap ((L:Int)-(w:Int))) (s:Int))+1)=(F7 L w s:Int):=by
 have e:(L:Int)-(w:Int)=((L-w:Nat):Int):=by omega
 have:=Nat.div_le_self (L-w) s
 rw [e,wnat (by omega),Int.tdiv_eq_ediv_of_nonneg (by omega),← Int.natCast_ediv,wnat (by omega),Gh _]
 rfl
theorem winP (L w s:Nat) (hw:w≤L) (hl:L≤100000) (s1:1≤s):f209 (L:Int) (w:Int) (s:Int)=some (F7 L w s:Int):=by
 unfold f209
 rw [dF,cond_false,Bh,win_eq L w s hw hl]
theorem win_none (L w s:Int) (hw:w>L):f209 L w s=some 0:=by
 unfold f209
 rw [dT hw];rfl
theorem of_ok (d:List Int):f210 d=some (if 0<prd d then (0,d,List.replicate (prd d).toNat 0) else (2,[],[])):=by
 unfold f210
 rw [Ky]
 by_cases h:0<prd d
 ·rw [if_pos h,if_pos h,A9,nF rfl];rfl
 ·rw [if_neg h,if_neg h,A9,nT (by decide:¬(1:Int)=0)];rfl
section
variable (A K:List Int) (c L o w s:Nat) (c1:1≤c) (w1:1≤w) (hA:A.length=c*L) (hK:K.length=o*(c*w)) (bA:c*L≤4096) (bK:o*(c*w)≤4096) (hw:w≤L) (s1:1≤s) (s64:s≤64) (iA:inI A) (iK:inI K) (o1:1≤o)
include c1 w1 hA hK bA bK hw s1 s64 iA iK o1
theorem row_loopP (n0:0<prd [(o:Int),(F7 L w s:Int)]) :
  Fp (fun go (x:Int×List Int)=>f219_l14 ([(c:Int),(L:Int)],A) ([(o:Int),(c:Int),(w:Int)],K) s (F7 L w s:Int) (0,[(o:Int),(F7 L w s:Int)],List.replicate (o*F7 L w s) 0) go x.1 x.2) Fq ((0:Int),List.replicate (o*F7 L w s) 0)=some (Ga (o*F7 L w s) (rowV A K c L w s)):=by
 have hp:=(prod2 n0).2.2
 have hr:=F2 [(o:Int),(F7 L w s:Int)]
 have hN:((o*F7 L w s:Nat):Int)≤4096:=by rw [Int.natCast_mul];omega
 rw [Gk _ (rowV A K c L w s)]
 have h:=Fx (B:=fun go (x:Int×List Int)=>f219_l14 ([(c:Int),(L:Int)],A) ([(o:Int),(c:Int),(w:Int)],K) s (F7 L w s:Int) (0,[(o:Int),(F7 L w s:Int)],Kk (o*F7 L w s) 0 (rowV A K c L w s)) go x.1 x.2) (fun q=>((q:Int),Kk (o*F7 L w s) q (rowV A K c L w s))) (o*F7 L w s) (Ga (o*F7 L w s) (rowV A K c L w s)) ?_ ?_ (by omega)
 ·exact h
 ·intro q hq go
  unfold f219_l14
  simp only [F9]
  have m1:1≤F7 L w s:=Nat.le_add_left 1 _
  have m0:(F7 L w s:Int)≠0:=by omega
  have hcw:=row_cw A K c L o w s c1 w1 hA hK bA bK hw s1 s64 iA iK o1
  have hi:q/F7 L w s<o:=Nat.div_lt_of_lt_mul (by rw [Nat.mul_comm];exact hq)
  have hn:q%F7 L w s<F7 L w s:=Nat.mod_lt _ (Nat.le_add_left 1 _)
  obtain ⟨z,ez⟩:=acc_fix (sg (rowF A K c L w s (q/F7 L w s) (q%F7 L w s)) (c*w)) (sg_sm _ _ hcw (fun t ht=>row_p A K c L o w s c1 w1 hA hK bA bK hw s1 s64 iA iK hi hn ht))
  rw [dT,cond_true,Bh m0,Bh m0,row_sumP A K c L o w s c1 w1 hA hK bA bK hw s1 s64 iA iK q hq,A9,ez,A9,Bh,Gh q,Int.toNat_natCast]
  have:=Gu (o*F7 L w s) q (rowV A K c L w s) _ hq (rfl:sat (rhe (sg (rowF A K c L w s (q/F7 L w s) (q%F7 L w s)) (c*w)))=rowV A K c L w s q)
  simp only
  rw [this]
 ·intro go
  unfold f219_l14
  simp only [F9]
  rw [dF,cond_false,Gl]
theorem row_loopR (n0:0<prd [(o:Int),(F7 L w s:Int)]) :
  Fp (fun go (x:Int×List Int)=>f180_l33 ([(c:Int),(L:Int)],A) ([(o:Int),(c:Int),(w:Int)],K) s go x.1 x.2) Fq ((0:Int),List.replicate (o*F7 L w s) 0)=some (Ga (o*F7 L w s) (rowV A K c L w s)):=by
 have hp:=(prod2 n0).2.2
 have hr:=F2 [(o:Int),(F7 L w s:Int)]
 have hN:((o*F7 L w s:Nat):Int)≤4096:=by rw [Int.natCast_mul];omega
 have m1:1≤F7 L w s:=Nat.le_add_left 1 _
 have hoN:o≤o*F7 L w s:=Nat.le_mul_of_pos_right _ m1
 have hmN:F7 L w s≤o*F7 L w s:=Nat.le_mul_of_pos_left _ o1
 have hL:L≤4096:=Nat.le_trans (Nat.le_mul_of_pos_left _ c1) bA
 rw [Gk _ (rowV A K c L w s)]
 have h:=Fx (B:=fun go (x:Int×List Int)=>f180_l33 ([(c:Int),(L:Int)],A) ([(o:Int),(c:Int),(w:Int)],K) s go x.1 x.2) (fun i=>((i:Int),Kk (o*F7 L w s) (i*F7 L w s) (rowV A K c L w s))) o (Ga (o*F7 L w s) (rowV A K c L w s)) ?_ ?_ (by omega)
 ·rw [Nat.zero_mul] at h;exact h
 ·intro i hi go
  unfold f180_l33
  simp only
  have K2:=Fx (B:=fun go (x:Int×List Int)=>f180_l42 ([(c:Int),(L:Int)],A) ([(o:Int),(c:Int),(w:Int)],K) s (i:Int) go x.1 x.2) (fun j=>((j:Int),Kk (o*F7 L w s) (i*F7 L w s+j) (rowV A K c L w s))) (F7 L w s) (Kk (o*F7 L w s) ((i+1)*F7 L w s) (rowV A K c L w s)) ?_ ?_ (by omega)
  ·rw [Nat.add_zero] at K2
   have inner':Fp (fun go (x:Int×List Int)=>f180_l42 ([(c:Int),(L:Int)],A) ([(o:Int),(c:Int),(w:Int)],K) s (i:Int) go x.1 x.2) Fq ((0:Int),Kk (o*F7 L w s) (i*F7 L w s) (rowV A K c L w s))=_:=K2
   rw [show rd (0:Int) [(o:Int),(c:Int),(w:Int)] 0=(o:Int) from rfl,dT,cond_true,inner',A9,Gh i]
  ·intro j hj go
   have hq:=Jm (c:=o) hi hj
   obtain ⟨d1,d2⟩:=K5 (x:=i) hj
   have hcw:=row_cw A K c L o w s c1 w1 hA hK bA bK hw s1 s64 iA iK o1
   obtain ⟨z,ez,hz⟩:=row_sumR A K c L o w s c1 w1 hA hK bA bK hw s1 s64 iA iK i j hi hj
   obtain ⟨y,ey,hy⟩:=ref_end hz (sg_sm _ _ hcw (fun t ht=>row_p A K c L o w s c1 w1 hA hK bA bK hw s1 s64 iA iK hi hj ht))
   unfold f180_l42
   simp only [F9]
   rw [show rd (0:Int) [(o:Int),(c:Int),(w:Int)] 2=(w:Int) from rfl,show rd (0:Int) [(c:Int),(L:Int)] 1=(L:Int) from rfl,win_eq L w s hw (by omega),dT,cond_true,ez,A9,ey,A9,hy,A9,
    ixM i (F7 L w s) j (by omega),Bh,Int.toNat_natCast,Gh j]
   have:=Gu (o*F7 L w s) (i*F7 L w s+j) (rowV A K c L w s) (sat (rhe (sg (rowF A K c L w s i j) (c*w)))) hq (by unfold rowV;rw [d1,d2])
   rw [this]
   rfl
  ·intro go
   unfold f180_l42
   simp only
   rw [show rd (0:Int) [(o:Int),(c:Int),(w:Int)] 2=(w:Int) from rfl,show rd (0:Int) [(c:Int),(L:Int)] 1=(L:Int) from rfl,win_eq L w s hw (by omega),dF,cond_false,Nat.add_mul,Nat.one_mul]
 ·intro go
  unfold f180_l33
  simp only
  rw [show rd (0:Int) [(o:Int),(c:Int),(w:Int)] 0=(o:Int) from rfl,dF,cond_false,Gl]
end
abbrev J7 (a k:Tn):Prop:=a.1.length=2∧k.1.length=3∧rd (0:Int) k.1 1=rd (0:Int) a.1 0∧rd (0:Int) k.1 2≤rd (0:Int) a.1 1
abbrev Ju (a k:Tn) (step:Int):Prop:=Fu a=true∧Fu k=true∧1≤step∧step≤64
def rowS (a k:Tn) (step:Int):Int×Tn:=
 if Ju a k step then
  if J7 a k then
   if 0<prd [rd (0:Int) k.1 0,(F7 (rd (0:Int) a.1 1).toNat (rd (0:Int) k.1 2).toNat step.toNat:Int)] then
    (0,[rd (0:Int) k.1 0,(F7 (rd (0:Int) a.1 1).toNat (rd (0:Int) k.1 2).toNat step.toNat:Int)],
     Ga ((rd (0:Int) k.1 0).toNat*F7 (rd (0:Int) a.1 1).toNat (rd (0:Int) k.1 2).toNat step.toNat) (rowV a.2 k.2 (rd (0:Int) a.1 0).toNat (rd (0:Int) a.1 1).toNat (rd (0:Int) k.1 2).toNat step.toNat))
   else (2,[],[])
  else (4,[],[])
 else (1,[],[])
theorem two_of {d:List Int} (h:d.length=2):d=[rd (0:Int) d 0,rd (0:Int) d 1]:=by
 match d,h with
 | [x,y],_=>rfl
theorem three_of {d:List Int} (h:d.length=3):d=[rd (0:Int) d 0,rd (0:Int) d 1,rd (0:Int) d 2]:=by
 match d,h with
 | [x,y,z],_=>rfl
theorem Gx {a:Tn} (ha:Fu a=true) (h:a.1.length=2):∃ c L:Nat,a=([(c:Int),(L:Int)],a.2)∧1≤c∧1≤L∧a.2.length=c*L∧c*L≤4096:=by
 obtain ⟨hp,hl,_,l2⟩:=Fw ha
 have e:=two_of h
 rw [e] at hp hl
 obtain ⟨h1,h2,h3⟩:=prod2 hp
 obtain ⟨c,hc⟩:=Int.eq_ofNat_of_zero_le (show 0≤rd (0:Int) a.1 0 by omega)
 obtain ⟨L,hL⟩:=Int.eq_ofNat_of_zero_le (show 0≤rd (0:Int) a.1 1 by omega)
 rw [h3,hc,hL,← Int.natCast_mul] at hl
 exact ⟨c,L,Prod.ext (by rw [← hc,← hL];exact e) rfl,by omega,by omega,by omega,by omega⟩
theorem ker_nat {a:Tn} (ha:Fu a=true) (h:a.1.length=3):∃ o c w:Nat,a=([(o:Int),(c:Int),(w:Int)],a.2)∧1≤o∧1≤c∧1≤w∧a.2.length=o*(c*w)∧o*(c*w)≤4096:=by
 obtain ⟨hp,hl,_,l2⟩:=Fw ha
 have e:=three_of h
 rw [e] at hp hl
 obtain ⟨h1,h2,h3,h4⟩:=prod3 hp
 obtain ⟨o,ho⟩:=Int.eq_ofNat_of_zero_le (show 0≤rd (0:Int) a.1 0 by omega)
 obtain ⟨c,hc⟩:=Int.eq_ofNat_of_zero_le (show 0≤rd (0:Int) a.1 1 by omega)
 obtain ⟨w,hw⟩:=Int.eq_ofNat_of_zero_le (show 0≤rd (0:Int) a.1 2 by omega)
 rw [h4,ho,hc,hw,← Int.natCast_mul,← Int.natCast_mul] at hl
 exact ⟨o,c,w,Prod.ext (by rw [← ho,← hc,← hw];exact e) rfl,by omega,by omega,by omega,by omega,by omega⟩
theorem row_j5 (a k:Tn):f219_j5 a k=some (!(decide (J7 a k))):=by
 unfold f219_j5
 by_cases h1:a.1.length=2
 ·rw [nF,cond_false]
  by_cases h2:k.1.length=3
  ·rw [nF,cond_false,Bh,Bh]
   by_cases h3:rd (0:Int) k.1 1=rd (0:Int) a.1 0
   ·rw [nF h3,cond_false,Bh,Bh]
    by_cases h4:rd (0:Int) k.1 2≤rd (0:Int) a.1 1
    ·rw [dF,dT (show J7 a k from ⟨h1,h2,h3,h4⟩)];rfl
    ·rw [dT,dF (show ¬J7 a k from fun h=>h4 h.2.2.2)];rfl
   ·rw [nT h3,dF (show ¬J7 a k from fun h=>h3 h.2.2.1)];rfl
  ·rw [nT,dF (show ¬J7 a k from fun h=>h2 h.2.1)];rfl
 ·rw [nT,dF (show ¬J7 a k from fun h=>h1 h.1)];rfl
theorem row_j6 (a k:Tn):f180_j6 a k=some (!(decide (J7 a k))):=by
 unfold f180_j6
 by_cases h1:a.1.length=2
 ·rw [nF,cond_false]
  by_cases h2:k.1.length=3
  ·rw [nF,cond_false,Bh,Bh]
   by_cases h3:rd (0:Int) a.1 0=rd (0:Int) k.1 1
   ·rw [nF h3,cond_false,Bh,Bh]
    by_cases h4:rd (0:Int) k.1 2≤rd (0:Int) a.1 1
    ·rw [dF,dT (show J7 a k from ⟨h1,h2,h3.symm,h4⟩)];rfl
    ·rw [dT,dF (show ¬J7 a k from fun h=>h4 h.2.2.2)];rfl
   ·rw [nT h3,dF (show ¬J7 a k from fun h=>h3 h.2.2.1.symm)];rfl
  ·rw [nT,dF (show ¬J7 a k from fun h=>h2 h.2.1)];rfl
 ·rw [nT,dF (show ¬J7 a k from fun h=>h1 h.1)];rfl
theorem row_j4 (a k:Tn) (step:Int):f219_j4 a k step=some (!(decide (Ju a k step))):=by
 unfold f219_j4 f207
 have e1:f113 (a.1,a.2)=some (Fu a):=F8 a
 have e2:f113 (k.1,k.2)=some (Fu k):=F8 k
 generalize hd:decide (Ju a k step)=d
 rw [e1,A9]
 by_cases ha:Fu a=true
 ·rw [ha,Bool.not_true,cond_false,e2,A9]
  by_cases hk:Fu k=true
  ·rw [hk,Bool.not_true,cond_false]
   by_cases h1:step≥1
   ·rw [dT h1,cond_true]
    by_cases h2:step≤64
    ·rw [dT h2];rw [dT (show Ju a k step from ⟨ha,hk,h1,h2⟩)] at hd;rw [← hd];rfl
    ·rw [dF h2];rw [dF (show ¬Ju a k step from fun h=>h2 h.2.2.2)] at hd;rw [← hd];rfl
   ·rw [dF h1];rw [dF (show ¬Ju a k step from fun h=>h1 h.2.2.1)] at hd;rw [← hd];rfl
  ·rw [show Fu k=false by simpa using hk];rw [dF (show ¬Ju a k step from fun h=>hk h.2.1)] at hd;rw [← hd];rfl
 ·rw [show Fu a=false by simpa using ha];rw [dF (show ¬Ju a k step from fun h=>ha h.1)] at hd;rw [← hd];rfl
theorem row_j3 (a k:Tn) (step:Int):f180_j3 a k step=some (!(decide (Ju a k step))):=by
 unfold f180_j3
 have e1:f118 (a.1,a.2)=some (Fu a):=isR a
 have e2:f118 (k.1,k.2)=some (Fu k):=isR k
 generalize hd:decide (Ju a k step)=d
 rw [e1,A9]
 by_cases ha:Fu a=true
 ·rw [ha,Bool.not_true,cond_false,e2,A9]
  by_cases hk:Fu k=true
  ·rw [hk,Bool.not_true,cond_false]
   by_cases h1:step≥1
   ·rw [dF (show ¬step<1 by omega),cond_false]
    by_cases h2:step≤64
    ·rw [dF (show ¬step>64 by omega)];rw [dT (show Ju a k step from ⟨ha,hk,h1,h2⟩)] at hd;rw [← hd];rfl
    ·rw [dT (show step>64 by omega)];rw [dF (show ¬Ju a k step from fun h=>h2 h.2.2.2)] at hd;rw [← hd];rfl
   ·rw [dT (show step<1 by omega)];rw [dF (show ¬Ju a k step from fun h=>h1 h.2.2.1)] at hd;rw [← hd];rfl
  ·rw [show Fu k=false by simpa using hk];rw [dF (show ¬Ju a k step from fun h=>hk h.2.1)] at hd;rw [← hd];rfl
 ·rw [show Fu a=false by simpa using ha];rw [dF (show ¬Ju a k step from fun h=>ha h.1)] at hd;rw [← hd];rfl
theorem rowP (a k:Tn) (step:Int) (ia:inI a.2) (ik:inI k.2):f219 a k step=some (rowS a k step):=by
 unfold f219 f219_j3 rowS
 rw [row_j4,A9]
 by_cases h:Ju a k step
 ·rw [dT h,if_pos h,Bool.not_true,cond_false,row_j5,A9]
  by_cases f:J7 a k
  ·rw [dT f,if_pos f,Bool.not_true,cond_false,A9,Fl]
   obtain ⟨ga,gk,t1,t64⟩:=h
   obtain ⟨f1,f2,f3,f4⟩:=f
   obtain ⟨c,L,ea,c1,L1,la,ba⟩:=Gx ga f1
   obtain ⟨o,c',w,ek,o1,_,w1,lk,bk⟩:=ker_nat gk f2
   obtain ⟨s,rfl⟩:=Int.eq_ofNat_of_zero_le (show 0≤step by omega)
   generalize a.2=A at *
   generalize k.2=K at *
   subst ea ek
   have fc:(c':Int)=(c:Int):=f3
   have fc':c'=c:=by omega
   subst fc'
   have fw:(w:Int)≤(L:Int):=f4
   have s1:1≤s:=by omega
   have s64:s≤64:=by omega
   have hL:L≤4096:=Nat.le_trans (Nat.le_mul_of_pos_left _ c1) ba
   rw [Bh (by simp),Bh (by simp),Bh (by simp)]
   have eW:f209 (rd (0:Int) [(c':Int),(L:Int)] 1) (rd (0:Int) [(o:Int),(c':Int),(w:Int)] 2) (s:Int)=some (F7 L w s:Int):=winP L w s (by omega) (by omega) s1
   rw [eW,A9,Bh (by simp),of_ok,A9]
   show _=some (if 0<prd [(o:Int),(F7 L w s:Int)] then (0,[(o:Int),(F7 L w s:Int)],Ga (o*F7 L w s) (rowV A K c' L w s)) else (2,[],[]))
   rw [show rd (0:Int) [(o:Int),(c':Int),(w:Int)] 0=(o:Int) from rfl]
   by_cases n0:0<prd [(o:Int),(F7 L w s:Int)]
   ·have hp:=(prod2 n0).2.2
    have eN:(prd [(o:Int),(F7 L w s:Int)]).toNat=o*F7 L w s:=by rw [hp,← Int.natCast_mul,Int.toNat_natCast]
    rw [if_pos n0,if_pos n0,eN,nF rfl,cond_false]
    simp only
    rw [row_loopP A K c' L o w s c1 w1 la lk ba bk (by omega) s1 s64 ia ik o1 n0,A9]
   ·rw [if_neg n0,if_neg n0,nT (by decide:¬(2:Int)=0)];rfl
  ·rw [dF f,if_neg f];rfl
 ·rw [dF h,if_neg h];rfl
theorem rowR (a k:Tn) (step:Int) (ia:inI a.2) (ik:inI k.2):f180 a k step=some (rowS a k step):=by
 unfold f180 f180_j2 rowS
 rw [row_j3,A9]
 by_cases h:Ju a k step
 ·rw [dT h,if_pos h,Bool.not_true,cond_false,A9,Fl]
  unfold f180_j5
  rw [row_j6,A9]
  by_cases f:J7 a k
  ·rw [dT f,if_pos f,Bool.not_true,cond_false,A9,Fl]
   obtain ⟨ga,gk,t1,t64⟩:=h
   obtain ⟨f1,f2,f3,f4⟩:=f
   obtain ⟨c,L,ea,c1,L1,la,ba⟩:=Gx ga f1
   obtain ⟨o,c',w,ek,o1,_,w1,lk,bk⟩:=ker_nat gk f2
   obtain ⟨s,rfl⟩:=Int.eq_ofNat_of_zero_le (show 0≤step by omega)
   generalize a.2=A at *
   generalize k.2=K at *
   subst ea ek
   have fc:(c':Int)=(c:Int):=f3
   have fc':c'=c:=by omega
   subst fc'
   have fw:(w:Int)≤(L:Int):=f4
   have s1:1≤s:=by omega
   have s64:s≤64:=by omega
   have hL:L≤4096:=Nat.le_trans (Nat.le_mul_of_pos_left _ c1) ba
   rw [Bh (by simp),Bh (by simp),Bh (by simp),Bh (by simp),Bh]
   have eW:IntKind.i64.wrap (IntKind.i64.wrap (Int.tdiv (IntKind.i64.wrap (rd (0:Int) [(c':Int),(L:Int)] 1-rd (0:Int) [(o:Int),(c':Int),(w:Int)] 2)) (s:Int))+1)=(F7 L w s:Int):=win_eq L w s (by omega) (by omega)
   rw [eW,show rd (0:Int) [(o:Int),(c':Int),(w:Int)] 0=(o:Int) from rfl,goodR,A9]
   show _=some (if 0<prd [(o:Int),(F7 L w s:Int)] then (0,[(o:Int),(F7 L w s:Int)],Ga (o*F7 L w s) (rowV A K c' L w s)) else (2,[],[]))
   by_cases n0:0<prd [(o:Int),(F7 L w s:Int)]
   ·have hp:=(prod2 n0).2.2
    have eN:(prd [(o:Int),(F7 L w s:Int)]).toNat=o*F7 L w s:=by rw [hp,← Int.natCast_mul,Int.toNat_natCast]
    rw [dT (show prd [(o:Int),(F7 L w s:Int)]>0 from n0),if_pos n0,Bool.not_true,cond_false,newR _ _ n0,A9,eN]
    simp only
    rw [row_loopR A K c' L o w s c1 w1 la lk ba bk (by omega) s1 s64 ia ik o1 n0,A9]
   ·rw [dF (show ¬prd [(o:Int),(F7 L w s:Int)]>0 from n0),if_neg n0];rfl
  ·rw [dF f,if_neg f];rfl
 ·rw [dF h,if_neg h];rfl
end Go.Proofs.Cv
namespace Go.Proofs.PlM
open Go.AM Go.Proofs.PlB Go.Proofs.PlW Go.Proofs.PlT
structure Mat (n m:Int):Prop where
 n1:1≤n
 n2:n≤4096
 m1:1≤m
 m2:m≤4096
 p:n*m≤4096
theorem Mat.prd {n m:Int} (h:Mat n m):prd [n,m]=n*m:=by
 obtain ⟨h1,h2,h3,h4,h5⟩:=h
 rw [prd_two,iNo]
theorem Mat.pos {n m:Int} (h:Mat n m):0<n*m:=Int.mul_pos (by have:=h.n1;omega) (by have:=h.m1;omega)
theorem Mat.swap {n m:Int} (h:Mat n m):Mat m n:=⟨h.m1,h.m2,h.n1,h.n2,by rw [Int.mul_comm];exact h.p⟩
theorem Mat.of {n m:Int} (h:0<PlB.prd [n,m]):Mat n m:=by
 rw [prd_two] at h
 split at h
 ·omega
 ·rename_i h';exact ⟨by omega,by omega,by omega,by omega,by omega⟩
theorem rd0 (a b:Int):rd (0:Int) [a,b] 0=a:=rfl
theorem rd1 (a b:Int):rd (0:Int) [a,b] 1=b:=rfl
theorem place_ok (n m q:Int) (h:Mat n m) (q0:0≤q) (q1:q<n*m):f203 [n,m] q=some (true,[q/m,q%m]):=by
 have hp:=h.pos
 obtain ⟨h1,h2,h3,h4,h5⟩:=h
 have hd:q/m<n:=Int.ediv_lt_of_lt_mul (by omega) q1
 have hd0:0≤q/m:=Int.ediv_nonneg q0 (by omega)
 have hm0:0≤q%m:=Int.emod_nonneg _ (by omega)
 have hm1:q%m<m:=Int.emod_lt_of_pos _ (by omega)
 have hj:f203_j1 [n,m] q=some (Sum.inl ()):=by
  unfold f203_j1
  rw [show decide (q<0)=false by simp;omega,PlB.size_ok,prd_two,iNo]
  simp only [cond_false,A9]
  rw [show decide (q≥n*m)=false by simp;omega]
  rfl
 have s1:∀ go,f203_l2 [n,m] go q 1 [0,0]=go (q/m,0,[0,q%m]):=fun go=>by
  unfold f203_l2
  rw [show decide ((1:Int)≥0)=true from rfl]
  simp only [cond_true]
  have hr:rd (0:Int) [n,m] 1≠0:=by rw [rd1];omega
  rw [Bh (by simp),Bh hr,Bh (by simp),Bh (by simp),Bh hr,rd1,Int.tdiv_eq_ediv_of_nonneg q0,Int.tmod_eq_emod_of_nonneg q0,E9]
  rfl
 have s2:∀ go,f203_l2 [n,m] go (q/m) 0 [0,q%m]=go (IntKind.i64.wrap (q/m/n),-1,[q/m,q%m]):=fun go=>by
  unfold f203_l2
  rw [show decide ((0:Int)≥0)=true from rfl]
  simp only [cond_true]
  have hr:rd (0:Int) [n,m] 0≠0:=by rw [rd0];omega
  rw [Bh (by simp),Bh hr,Bh (by simp),Bh (by simp),Bh hr,rd0,Int.tdiv_eq_ediv_of_nonneg hd0,Int.tmod_eq_emod_of_nonneg hd0,Int.emod_eq_of_lt hd0 hd]
  rfl
 have s3:∀ go x l,f203_l2 [n,m] go x (-1) l=some l:=fun go x l=>by
  unfold f203_l2
  rw [show decide ((-1:Int)≥0)=false from rfl]
  rfl
 have hloop:Fp (fun go (x:Int×Int×List Int)=>f203_l2 [n,m] go x.1 x.2.1 x.2.2) Fq (q,1,[0,0])=some [q/m,q%m]:=by
  rw [lf1]
  simp only
  rw [s1,lf2]
  simp only
  rw [s2,lf3]
  exact s3 _ _ _
 unfold f203
 rw [hj]
 simp only [A9,Fl]
 rw [Bh (by simp)]
 exact (congrArg (fun t=>D4 t fun z4=>some (true,z4)) hloop)
theorem at_ok (n m x y:Int) (h:Mat n m) (x0:0≤x) (x1:x<n) (y0:0≤y) (y1:y<m):f204 [n,m] [x,y]=some (x*m+y,true)∧0≤x*m+y∧x*m+y<n*m:=by
 have hp:=h.pos
 have hpr:=h.prd
 obtain ⟨h1,h2,h3,h4,h5⟩:=h
 have hx0:0≤x*m:=Int.mul_nonneg x0 (by omega)
 have hx1:(x+1)*m≤n*m:=Int.mul_le_mul_of_nonneg_right (by omega) (by omega)
 rw [Int.add_mul,Int.one_mul] at hx1
 refine ⟨?_,by omega,by omega⟩
 have hj:f204_j1 [n,m] [x,y]=some (Sum.inl ()):=by
  unfold f204_j1
  rw [Gn,hpr,show decide (n*m>0)=true by simpa using hp]
  rfl
 have s1:∀ go,f204_l4 [n,m] [x,y] go 0 0=go (x,1):=fun go=>by
  unfold f204_l4
  rw [show decide ((0:Int)<(List.length [x,y]:Int))=true from rfl]
  simp only [cond_true]
  rw [Bh (by simp)]
  have hj5:f204_j5 [n,m] [x,y] 0=some (Sum.inl ()):=by
   unfold f204_j5
   rw [show decide (rd (0:Int) [x,y] 0<0)=false from decide_eq_false (by rw [rd0];omega)]
   simp only [cond_false]
   rw [Bh (by simp),show decide (rd (0:Int) [x,y] 0≥rd (0:Int) [n,m] 0)=false from decide_eq_false (by rw [rd0,rd0];omega)]
   rfl
  rw [hj5]
  simp only [A9,Fl]
  rw [Bh (by simp),rd0,rd0,Int.zero_mul,show IntKind.i64.wrap 0=0 from rfl,Int.zero_add,E9]
  rfl
 have s2:∀ go,f204_l4 [n,m] [x,y] go x 1=go (x*m+y,2):=fun go=>by
  unfold f204_l4
  rw [show decide ((1:Int)<(List.length [x,y]:Int))=true from rfl]
  simp only [cond_true]
  rw [Bh (by simp)]
  have hj5:f204_j5 [n,m] [x,y] 1=some (Sum.inl ()):=by
   unfold f204_j5
   rw [show decide (rd (0:Int) [x,y] 1<0)=false from decide_eq_false (by rw [rd1];omega)]
   simp only [cond_false]
   rw [Bh (by simp),show decide (rd (0:Int) [x,y] 1≥rd (0:Int) [n,m] 1)=false from decide_eq_false (by rw [rd1,rd1];omega)]
   rfl
  rw [hj5]
  simp only [A9,Fl]
  rw [Bh (by simp),rd1,rd1,E9 (n:=x*m) (by omega) (by omega),E9 (n:=x*m+y) (by omega) (by omega)]
  rfl
 have s3:∀ go z,f204_l4 [n,m] [x,y] go z 2=some (Sum.inr z):=fun go z=>by
  unfold f204_l4
  rw [show decide ((2:Int)<(List.length [x,y]:Int))=false from rfl]
  rfl
 unfold f204
 rw [hj]
 simp only [A9,Fl]
 have hloop:Fp (fun go (z:Int×Int)=>f204_l4 [n,m] [x,y] go z.1 z.2) Fq (0,0)=some (Sum.inr (x*m+y)):=by
  rw [lf1]
  simp only
  rw [s1,lf2]
  simp only
  rw [s2,lf3]
  exact s3 _ _
 rw [hloop]
 rfl
def flipV (n m:Nat) (V:List Int) (q:Nat):Int:=V.getD ((q%n)*m+q/n) 0
theorem flip_at (n m q:Nat) (hn:0<n) (hq:q<m*n):(q%n)*m+q/n<n*m:=by
 have h1:q%n<n:=Nat.mod_lt _ hn
 have h2:q/n<m:=Nat.div_lt_of_lt_mul (by rw [Nat.mul_comm];exact hq)
 have:(q%n+1)*m≤n*m:=Nat.mul_le_mul_right _ h1
 rw [Nat.add_mul] at this;omega
theorem turn_ok (n m:Nat) (V:List Int) (h:Mat n m) (hV:V.length=n*m):f202 ([(n:Int),(m:Int)],V) [1,0]=some (0,[(m:Int),(n:Int)],(List.range (m*n)).map (flipV n m V)):=by
 have hp:=h.pos
 have hpr:=h.prd
 have hs:=h.swap
 obtain ⟨h1,h2,h3,h4,h5⟩:=h
 have hnm:((n*m:Nat):Int)=(n:Int)*(m:Int):=by simp
 have hmn:((m*n:Nat):Int)=(n:Int)*(m:Int):=by rw [Nat.mul_comm];simp
 have hg:Fu ([(n:Int),(m:Int)],V)=true:=by
  simp only [Fu,hpr,hV,hnm]
  simp;omega
 have hj:f202_j2 ([(n:Int),(m:Int)],V) [1,0]=some (Sum.inl ()):=by
  unfold f202_j2 f202_j3
  simp only [F8,hg,A9,Bool.not_true,cond_false,List.length_cons,List.length_nil]
  rw [show f228 [1,0] (((0+1+1:Nat):Int))=some true by kernel_rfl]
  rfl
 unfold f202
 rw [hj]
 simp only [A9,Fl]
 rw [Bh (by simp)]
 have hz:Fp (fun go (x:Int×List Int)=>f202_l4 ([(n:Int),(m:Int)],V) [1,0] go x.1 x.2) Fq ((0:Int),List.replicate (Int.toNat (List.length [(1:Int),0]:Int)) 0)=some [(m:Int),(n:Int)]:=by
  rw [lf1];rfl
 rw [hz]
 simp only [A9]
 rw [Ky,hs.prd,if_pos hs.pos]
 simp only [A9]
 have e1:((m:Int)*(n:Int)).toNat=m*n:=by rw [← Int.natCast_mul];rfl
 rw [e1]
 have H:∀ x:Int×List Int,(∃ k:Nat,x=((k:Int),J4 (flipV n m V) k (m*n))∧k≤m*n)→
   (∃ z,(∀ go,f202_l7 ([(n:Int),(m:Int)],V) [1,0] [(m:Int),(n:Int)] (0,[(m:Int),(n:Int)],List.replicate (m*n) 0) go x.1 x.2=some z)∧z=(List.range (m*n)).map (flipV n m V))∨
   (∃ y:Int×List Int,(∀ go,f202_l7 ([(n:Int),(m:Int)],V) [1,0] [(m:Int),(n:Int)] (0,[(m:Int),(n:Int)],List.replicate (m*n) 0) go x.1 x.2=go y)∧
    (∃ k:Nat,y=((k:Int),J4 (flipV n m V) k (m*n))∧k≤m*n)∧(((m*n:Nat):Int)-y.1).toNat<(((m*n:Nat):Int)-x.1).toNat):=by
  rintro _ ⟨k,rfl,hk⟩
  by_cases hlt:k<m*n
  ·right
   have hfa:=flip_at n m k (by omega) hlt
   refine ⟨(((k+1:Nat):Int),_),fun go=>?_,⟨k+1,rfl,hlt⟩,by simp only;omega⟩
   simp only [f202_l7,List.length_replicate]
   rw [show decide ((k:Int)<((m*n:Nat):Int))=true by simp only [decide_eq_true_eq];omega]
   simp only [cond_true]
   rw [place_ok (m:Int) (n:Int) (k:Int) hs (by omega) (by rw [Int.mul_comm,← hmn];omega)]
   simp only [A9]
   rw [Bh (by simp)]
   have hin:Fp (fun go (x:Int×List Int)=>f202_l8 [1,0] (true,[(k:Int)/(n:Int),(k:Int)%(n:Int)]) go x.1 x.2) Fq ((0:Int),List.replicate (Int.toNat (List.length [(1:Int),0]:Int)) 0)=some [(k:Int)%(n:Int),(k:Int)/(n:Int)]:=by
    rw [lf1];rfl
   rw [hin]
   simp only [A9]
   have a0:(k:Int)%(n:Int)=((k%n:Nat):Int):=by simp
   have a1:(k:Int)/(n:Int)=((k/n:Nat):Int):=by simp
   have b0:k%n<n:=Nat.mod_lt _ (by omega)
   have b1:k/n<m:=Nat.div_lt_of_lt_mul (by rw [Nat.mul_comm];exact hlt)
   rw [a0,a1]
   obtain ⟨g1,g2,g3⟩:=at_ok (n:Int) (m:Int) ((k%n:Nat):Int) ((k/n:Nat):Int) ⟨h1,h2,h3,h4,h5⟩ (Int.natCast_nonneg _) (Int.ofNat_lt.2 b0) (Int.natCast_nonneg _) (Int.ofNat_lt.2 b1)
   rw [g1]
   simp only [A9,filled_len _ _ _ hk]
   have e2:((k%n:Nat):Int)*(m:Int)+((k/n:Nat):Int)=(((k%n)*m+k/n:Nat):Int):=by simp
   rw [e2,Bh (by rw [hV];omega),Bh,E9]
   have e3:rd (0:Int) V (((k%n)*m+k/n:Nat):Int)=flipV n m V k:=rfl
   rw [e3,Int.toNat_natCast,filled_set _ _ _ hlt]
   rfl
  ·left
   have:k=m*n:=by omega
   subst this
   refine ⟨_,fun go=>?_,filled_full _ _⟩
   simp only [f202_l7,List.length_replicate]
   rw [show decide (((m*n:Nat):Int)<((m*n:Nat):Int))=false by simp]
   rfl
 obtain ⟨z,e,rfl⟩:=Gd (B:=fun go (x:Int×List Int)=>f202_l7 ([(n:Int),(m:Int)],V) [1,0] [(m:Int),(n:Int)] (0,[(m:Int),(n:Int)],List.replicate (m*n) 0) go x.1 x.2) _ (fun x=>(((m*n:Nat):Int)-x.1).toNat) _ H
  ((0:Int),List.replicate (m*n) 0) ⟨0,by rw [filled_zero];rfl,Nat.zero_le _⟩ (by simp only;omega)
 rw [e]
 rfl
theorem flip_ok (n m:Nat) (V:List Int) (h:Mat n m) (hV:V.length=n*m):f165 ([(n:Int),(m:Int)],V)=some (0,[(m:Int),(n:Int)],(List.range (m*n)).map (flipV n m V)):=by
 have hg:Fu ([(n:Int),(m:Int)],V)=true:=by
  simp only [Fu,h.prd,hV]
  have:=h.pos
  simp;omega
 unfold f165
 simp only [F8,hg,A9,Bool.not_true,cond_false]
 rw [show f201 ([(n:Int),(m:Int)],V)=some true from rfl]
 simp only [A9,Bool.not_true,cond_false,turn_ok n m V h hV]
end Go.Proofs.PlM
namespace Go.Proofs.PlN
open Go.AM Go.Proofs.PlB Go.Proofs.PlW Go.Proofs.PlT Go.Proofs.PlM
def rowL (L:List Int) (k i:Nat):List Int:=(L.take ((i+1)*k)).drop (i*k)
theorem rowL_inI {L:List Int} {k i:Nat} (h:inI L):inI (rowL L k i):=fun x hx=>h x (List.mem_of_mem_take (List.mem_of_mem_drop hx))
theorem rowL_len (L:List Int) (k i:Nat):(rowL L k i).length≤k:=by
 unfold rowL
 rw [List.length_drop,List.length_take,Nat.add_mul];omega
theorem flip_inI {n m:Nat} {V:List Int} (h:inI V):inI ((List.range (m*n)).map (flipV n m V)):=by
 intro x hx
 obtain ⟨q,_,rfl⟩:=List.mem_map.1 hx
 unfold flipV
 by_cases hlt:(q%n)*m+q/n<V.length
 ·have:V.getD ((q%n)*m+q/n) 0=V[(q%n)*m+q/n]:=by simp [hlt]
  rw [this];exact h _ (List.getElem_mem hlt)
 ·have:V.getD ((q%n)*m+q/n) 0=0:=by simp [List.getElem?_eq_none (Nat.le_of_not_lt hlt)]
  rw [this];decide
def mulV (k c:Nat) (A F:List Int) (q:Nat):Int:=sat (rhe (dotS (rowL A k (q/c)) (rowL F k (q%c))))
theorem mul_ok (n k c:Nat) (A B:List Int) (h1:Mat n k) (h2:Mat k c) (hA:A.length=n*k) (hB:B.length=k*c) (iA:inI A) (iB:inI B) :
  f200 ([(n:Int),(k:Int)],A) ([(k:Int),(c:Int)],B)=some (if 0<prd [(n:Int),(c:Int)] then (0,[(n:Int),(c:Int)],(List.range (n*c)).map (mulV k c A ((List.range (c*k)).map (flipV k c B)))) else (2,[],[])):=by
 have hg1:Fu ([(n:Int),(k:Int)],A)=true:=by
  simp only [Fu,h1.prd,hA]
  have:=h1.pos
  simp;omega
 have hg2:Fu ([(k:Int),(c:Int)],B)=true:=by
  simp only [Fu,h2.prd,hB]
  have:=h2.pos
  simp;omega
 have hj:f200_j3 ([(n:Int),(k:Int)],A) ([(k:Int),(c:Int)],B)=some (Sum.inl ()):=by
  unfold f200_j3 f200_j4 f200_j5
  simp only [F8,hg1,hg2,A9,Bool.not_true,cond_false]
  rw [show f201 ([(n:Int),(k:Int)],A)=some true from rfl,show f201 ([(k:Int),(c:Int)],B)=some true from rfl]
  simp only [A9,Bool.not_true,cond_false,rd0,rd1]
  rw [Bh (by simp),Bh (by simp),show ((k:Int) != (k:Int))=false by simp]
  rfl
 unfold f200
 rw [hj]
 simp only [A9,Fl,rd0,rd1]
 rw [Bh (by simp),Bh (by simp),Bh (by simp),Ky]
 by_cases hp:0<prd [(n:Int),(c:Int)]
 ·rw [if_pos hp,if_pos hp]
  have h3:=Mat.of hp
  simp only [A9]
  rw [show ((0:Int) != 0)=false from rfl]
  simp only [cond_false]
  rw [flip_ok k c B h2 hB]
  simp only [A9]
  obtain ⟨n1,n2,k1,k2,nk⟩:=h1
  obtain ⟨_,_,c1,c2,kc⟩:=h2
  have nc:=h3.p
  generalize hF:(List.range (c*k)).map (flipV k c B)=F
  have lF:F.length=c*k:=by rw [← hF];simp
  have iF:inI F:=by rw [← hF];exact flip_inI iB
  generalize hg:mulV k c A F=g
  have e1:(prd [(n:Int),(c:Int)]).toNat=n*c:=by rw [h3.prd,← Int.natCast_mul];rfl
  rw [e1]
  have nk':((n*k:Nat):Int)=(n:Int)*(k:Int):=by simp
  have ck':((c*k:Nat):Int)=(k:Int)*(c:Int):=by rw [Nat.mul_comm];simp
  have nc':((n*c:Nat):Int)=(n:Int)*(c:Int):=by simp
  have K2:∀ i:Nat,i<n→Fp (fun go (x:Int×List Int)=>f200_l9 ([(n:Int),(k:Int)],A) ([(k:Int),(c:Int)],B) (0,[(c:Int),(k:Int)],F) (i:Int) go x.1 x.2) Fq ((0:Int),J4 g (i*c) (n*c))=some (J4 g ((i+1)*c) (n*c)):=by
   intro i hi
   have hic:(i+1)*c≤n*c:=Nat.mul_le_mul_right _ hi
   have hik:(i+1)*k≤n*k:=Nat.mul_le_mul_right _ hi
   have hick:((i*k:Nat):Int)=(i:Int)*(k:Int):=by simp
   have hick1:(((i+1)*k:Nat):Int)=((i:Int)+1)*(k:Int):=by simp
   have hic':((i*c:Nat):Int)=(i:Int)*(c:Int):=by simp
   rw [Nat.add_mul,Nat.one_mul] at hic
   have H:∀ x:Int×List Int,(∃ j:Nat,x=((j:Int),J4 g (i*c+j) (n*c))∧j≤c)→
     (∃ z,(∀ go,f200_l9 ([(n:Int),(k:Int)],A) ([(k:Int),(c:Int)],B) (0,[(c:Int),(k:Int)],F) (i:Int) go x.1 x.2=some z)∧z=J4 g ((i+1)*c) (n*c))∨
     (∃ y:Int×List Int,(∀ go,f200_l9 ([(n:Int),(k:Int)],A) ([(k:Int),(c:Int)],B) (0,[(c:Int),(k:Int)],F) (i:Int) go x.1 x.2=go y)∧(∃ j:Nat,y=((j:Int),J4 g (i*c+j) (n*c))∧j≤c)∧((c:Int)-y.1).toNat<((c:Int)-x.1).toNat):=by
    rintro _ ⟨j,rfl,hj⟩
    by_cases hlt:j<c
    ·right
     have hjk:(j+1)*k≤c*k:=Nat.mul_le_mul_right _ hlt
     have hjck:((j*k:Nat):Int)=(j:Int)*(k:Int):=by simp
     have hjck1:(((j+1)*k:Nat):Int)=((j:Int)+1)*(k:Int):=by simp
     have hj1:j*k≤(j+1)*k:=Nat.mul_le_mul_right _ (by omega)
     have hi1:i*k≤(i+1)*k:=Nat.mul_le_mul_right _ (by omega)
     refine ⟨(((j+1:Nat):Int),_),fun go=>?_,⟨j+1,rfl,hlt⟩,by simp only;omega⟩
     simp only [f200_l9]
     rw [rd1 (n:Int) (k:Int),rd1 (k:Int) (c:Int),show decide ((j:Int)<(c:Int))=true by simpa using hlt]
     simp only [cond_true]
     rw [E9 (n:=(i:Int)+1) (by omega) (by omega),E9 (n:=(j:Int)+1) (by omega) (by omega),← hick,← hick1,← hjck,← hjck1,← hic']
     rw [E9 (n:=((i*k:Nat):Int)) (by omega) (by omega),E9 (n:=(((i+1)*k:Nat):Int)) (by omega) (by omega),E9 (n:=((j*k:Nat):Int)) (by omega) (by omega),E9 (n:=(((j+1)*k:Nat):Int)) (by omega) (by omega),
      E9 (n:=((i*c:Nat):Int)) (by omega) (by omega),E9 (n:=((i*c:Nat):Int)+(j:Int)) (by omega) (by omega)]
     rw [Bh (by rw [hA];omega),Bh (by rw [lF];omega)]
     simp only [Int.toNat_natCast]
     have hdot:f227 (List.drop (i*k) (List.take ((i+1)*k) A)) (List.drop (j*k) (List.take ((j+1)*k) F))=some (g (i*c+j)):=by
      have:=dot_ok (rowL A k i) (rowL F k j) (rowL_inI iA) (rowL_inI iF) (.inl (by have:=rowL_len A k i;omega))
      rw [← hg]
      unfold mulV
      have q1:(i*c+j)/c=i:=by rw [Nat.mul_comm,Nat.mul_add_div (by omega),Nat.div_eq_of_lt hlt,Nat.add_zero]
      have q2:(i*c+j)%c=j:=by rw [Nat.mul_comm,Nat.mul_add_mod,Nat.mod_eq_of_lt hlt]
      rw [q1,q2]
      exact this
     rw [hdot]
     simp only [A9,filled_len g (i*c+j) (n*c) (by omega)]
     rw [Bh,show ((i*c:Nat):Int)+(j:Int)=((i*c+j:Nat):Int) by omega,Int.toNat_natCast,filled_set _ _ _ (by omega)]
     rfl
    ·left
     have:j=c:=by omega
     subst this
     refine ⟨_,fun go=>?_,by rw [Nat.add_mul,Nat.one_mul]⟩
     simp only [f200_l9]
     rw [rd1 (n:Int) (k:Int),rd1 (k:Int) (j:Int),show decide ((j:Int)<(j:Int))=false by simp]
     rfl
   obtain ⟨z,e,rfl⟩:=Gd (B:=fun go (x:Int×List Int)=>f200_l9 ([(n:Int),(k:Int)],A) ([(k:Int),(c:Int)],B) (0,[(c:Int),(k:Int)],F) (i:Int) go x.1 x.2) _ (fun x=>((c:Int)-x.1).toNat) _ H
    ((0:Int),J4 g (i*c) (n*c)) ⟨0,rfl,Nat.zero_le _⟩ (by simp only;omega)
   exact e
  have H:∀ x:Int×List Int,(∃ i:Nat,x=((i:Int),J4 g (i*c) (n*c))∧i≤n)→
    (∃ z,(∀ go,f200_l8 ([(n:Int),(k:Int)],A) ([(k:Int),(c:Int)],B) (0,[(c:Int),(k:Int)],F) go x.1 x.2=some z)∧z=(List.range (n*c)).map g)∨
    (∃ y:Int×List Int,(∀ go,f200_l8 ([(n:Int),(k:Int)],A) ([(k:Int),(c:Int)],B) (0,[(c:Int),(k:Int)],F) go x.1 x.2=go y)∧(∃ i:Nat,y=((i:Int),J4 g (i*c) (n*c))∧i≤n)∧((n:Int)-y.1).toNat<((n:Int)-x.1).toNat):=by
   rintro _ ⟨i,rfl,hi⟩
   by_cases hlt:i<n
   ·right
    refine ⟨(((i+1:Nat):Int),_),fun go=>?_,⟨i+1,rfl,hlt⟩,by simp only;omega⟩
    simp only [f200_l8]
    rw [rd0,show decide ((i:Int)<(n:Int))=true by simpa using hlt]
    simp only [cond_true]
    rw [K2 i hlt]
    simp only [A9]
    rw [E9]
    rfl
   ·left
    have:i=n:=by omega
    subst this
    refine ⟨_,fun go=>?_,filled_full _ _⟩
    simp only [f200_l8]
    rw [rd0,show decide ((i:Int)<(i:Int))=false by simp]
    rfl
  obtain ⟨z,e,rfl⟩:=Gd (B:=fun go (x:Int×List Int)=>f200_l8 ([(n:Int),(k:Int)],A) ([(k:Int),(c:Int)],B) (0,[(c:Int),(k:Int)],F) go x.1 x.2) _ (fun x=>((n:Int)-x.1).toNat) _ H
   ((0:Int),List.replicate (n*c) 0) ⟨0,by rw [Nat.zero_mul,filled_zero];rfl,Nat.zero_le _⟩ (by simp only;omega)
  rw [e]
  rfl
 ·rw [if_neg hp,if_neg hp]
  rfl
end Go.Proofs.PlN
namespace Go.Proofs.Matm
open Go.AM Go.Proofs.PlB Go.Proofs.PlW Go.Proofs.PlT Go.Proofs.PlM Go.Proofs.PlN
theorem rowL_map (L:List Int) (k i:Nat) (h:(i+1)*k≤L.length):rowL L k i=(List.range k).map (fun q=>L.getD (i*k+q) 0):=by
 unfold rowL
 apply List.ext_getElem
 ·rw [List.length_drop,List.length_take,List.length_map,List.length_range,Nat.add_mul]
  rw [Nat.add_mul] at h;omega
 ·intro q h1 h2
  rw [List.length_map,List.length_range] at h2
  rw [Nat.add_mul] at h
  simp only [List.getElem_drop,List.getElem_take,List.getElem_map,List.getElem_range]
  simp [List.getElem?_eq_getElem (show i*k+q<L.length by omega)]
theorem flipL_get (n m:Nat) (V:List Int) (q:Nat) (h:q<m*n):((List.range (m*n)).map (flipV n m V)).getD q 0=flipV n m V q:=by
 simp [h]
theorem col_map (k c j:Nat) (B:List Int) (hk:0<k) (hj:j<c):rowL ((List.range (c*k)).map (flipV k c B)) k j=(List.range k).map (fun q=>B.getD (q*c+j) 0):=by
 have hjk:(j+1)*k≤c*k:=Nat.mul_le_mul_right _ hj
 rw [rowL_map _ _ _ (by simpa using hjk)]
 apply List.map_congr_left
 intro q hq
 have hq:=List.mem_range.1 hq
 rw [Nat.add_mul,Nat.one_mul] at hjk
 rw [flipL_get _ _ _ _ (by omega)]
 unfold flipV
 have q1:(j*k+q)/k=j:=by rw [Nat.mul_comm,Nat.mul_add_div hk,Nat.div_eq_of_lt hq,Nat.add_zero]
 have q2:(j*k+q)%k=q:=by rw [Nat.mul_comm,Nat.mul_add_mod,Nat.mod_eq_of_lt hq]
 rw [q1,q2]
end Go.Proofs.Matm
namespace Go.Proofs.Cv
open Go.AM Go.Proofs.PlB Go.Proofs.PlW Go.Proofs.PlT Go.Proofs.PlS Go.Proofs.Sh Go.Proofs.Num Go.Proofs.Div Go.Proofs.Op
def mmF (A B:List Int) (k c i j t:Nat):Int:=rd (0:Int) A ((i*k+t:Nat):Int)*rd (0:Int) B ((t*c+j:Nat):Int)
def mmV (A B:List Int) (k c q:Nat):Int:=sat (rhe (sg (mmF A B k c (q/c) (q%c)) k))
theorem dotS_snoc:∀ (a b:List Int) (x y:Int),a.length=b.length→dotS (a++[x]) (b++[y])=dotS a b+x*y
 | [],[],x,y,_=>by simp [dotS]
 | u::a,v::b,x,y,h=>by
  have:=dotS_snoc a b x y (by simpa using h)
  simp only [List.cons_append,dotS]
  rw [this];omega
 | [],_::_,_,_,h=>absurd h (by simp)
 | _::_,[],_,_,h=>absurd h (by simp)
theorem dotS_map (f g:Nat→Int):∀ k,dotS ((List.range k).map f) ((List.range k).map g)=sg (fun t=>f t*g t) k
 | 0=>rfl
 | k+1=>by
  rw [List.range_succ,List.map_append,List.map_append]
  show dotS (_++[f k]) (_++[g k])=_
  rw [dotS_snoc _ _ _ _ (by simp),dotS_map f g k];rfl
theorem rd_getD (l:List Int) (i:Nat) (h:i<l.length):rd (0:Int) l (i:Int)=l.getD i 0:=by
 rw [Gg _ _ _ h];simp [List.getD,h]
section
variable (A B:List Int) (n k c:Nat) (n1:1≤n) (k1:1≤k) (c1:1≤c) (hA:A.length=n*k) (hB:B.length=k*c) (bA:n*k≤4096) (bB:k*c≤4096) (iA:inI A) (iB:inI B)
include n1 k1 c1 hA hB bA bB iA iB
theorem mm_a {i t:Nat} (hi:i<n) (ht:t<k):i*k+t<A.length:=by rw [hA];exact Jm hi ht
theorem mm_b {j t:Nat} (hj:j<c) (ht:t<k):t*c+j<B.length:=by rw [hB];exact Jm ht hj
theorem mm_p {i j:Nat} (hi:i<n) (hj:j<c) (t:Nat) (ht:t<k):Pb (mmF A B k c i j t):=
 pb_mul (rdIn iA (mm_a A B n k c n1 k1 c1 hA hB bA bB iA iB hi ht)) (rdIn iB (mm_b A B n k c n1 k1 c1 hA hB bA bB iA iB hj ht))
theorem mm_k:k≤4096:=Nat.le_trans (Nat.le_mul_of_pos_left _ n1) bA
theorem mm_matA:PlM.Mat n k:=⟨by omega,by have:n≤n*k:=Nat.le_mul_of_pos_right _ k1;omega,by omega,by have:=mm_k A B n k c n1 k1 c1 hA hB bA bB iA iB;omega,by rw [← Int.natCast_mul];omega⟩
theorem mm_matB:PlM.Mat k c:=⟨by omega,by have:=mm_k A B n k c n1 k1 c1 hA hB bA bB iA iB;omega,by omega,by have:c≤k*c:=Nat.le_mul_of_pos_left _ k1;omega,by rw [← Int.natCast_mul];omega⟩
theorem mm_okP:f200 ([(n:Int),(k:Int)],A) ([(k:Int),(c:Int)],B)=some (if 0<prd [(n:Int),(c:Int)] then (0,[(n:Int),(c:Int)],Ga (n*c) (mmV A B k c)) else (2,[],[])):=by
 rw [PlN.mul_ok n k c A B (mm_matA A B n k c n1 k1 c1 hA hB bA bB iA iB) (mm_matB A B n k c n1 k1 c1 hA hB bA bB iA iB) hA hB iA iB]
 have e:(List.range (n*c)).map (PlN.mulV k c A ((List.range (c*k)).map (PlM.flipV k c B)))=Ga (n*c) (mmV A B k c):=by
  refine Ge _ _ _ (fun q hq=>?_)
  have hi:q/c<n:=Nat.div_lt_of_lt_mul (by rw [Nat.mul_comm];exact hq)
  have hj:q%c<c:=Nat.mod_lt _ c1
  unfold PlN.mulV mmV
  rw [Matm.rowL_map A k (q/c) (by rw [hA];exact Nat.mul_le_mul_right _ hi),Matm.col_map k c (q%c) B k1 hj,dotS_map]
  congr 2
 rw [e]
theorem mm_sumR (i j:Nat) (hi:i<n) (hj:j<c) :
  ∃ z,Fp (fun go (x:Int×Bool×Int×Int×Int×Int)=>f126_l19 ([(n:Int),(k:Int)],A) ([(k:Int),(c:Int)],B) (i:Int) (j:Int) go x.1 x.2.1 x.2.2.1 x.2.2.2.1 x.2.2.2.2.1 x.2.2.2.2.2) Fq ((0:Int),false,(0:Int),(0:Int),(0:Int),(0:Int))=some z∧Nm (sg (mmF A B k c i j) k) z:=by
 have hk:=mm_k A B n k c n1 k1 c1 hA hB bA bB iA iB
 have h:=refdot (B:=fun go (x:Int×Bool×Int×Int×Int×Int)=>f126_l19 ([(n:Int),(k:Int)],A) ([(k:Int),(c:Int)],B) (i:Int) (j:Int) go x.1 x.2.1 x.2.2.1 x.2.2.2.1 x.2.2.2.2.1 x.2.2.2.2.2)
  (mmF A B k c i j) 0 k (fun t=>rd (0:Int) A ((i*k+t:Nat):Int)) (fun t=>rd (0:Int) B ((t*c+j:Nat):Int)) (by omega) (fun t ht=>by rw [Nat.zero_add];rfl)
  (fun t ht=>rdIn iA (mm_a A B n k c n1 k1 c1 hA hB bA bB iA iB hi ht)) (fun t ht=>rdIn iB (mm_b A B n k c n1 k1 c1 hA hB bA bB iA iB hj ht)) (fun t ht=>mm_p A B n k c n1 k1 c1 hA hB bA bB iA iB hi hj t (by omega)) (by
   intro t ht z go
   have ha:=mm_a A B n k c n1 k1 c1 hA hB bA bB iA iB hi ht
   have hb:=mm_b A B n k c n1 k1 c1 hA hB bA bB iA iB hj ht
   unfold f126_l19
   simp only
   rw [show rd (0:Int) [(n:Int),(k:Int)] 1=(k:Int) from rfl,show rd (0:Int) [(k:Int),(c:Int)] 1=(c:Int) from rfl,dT,cond_true,ixM i k t (by omega),ixM t c j (by omega),Bh,Bh,Gh t]) (by
   intro z go
   unfold f126_l19
   simp only
   rw [show rd (0:Int) [(n:Int),(k:Int)] 1=(k:Int) from rfl,dF,cond_false]) (false,0,0,0,0) nm_zero
 rw [Nat.zero_add] at h
 exact h
theorem mm_loopR (n0:0<prd [(n:Int),(c:Int)]) :
  Fp (fun go (x:Int×List Int)=>f126_l15 ([(n:Int),(k:Int)],A) ([(k:Int),(c:Int)],B) go x.1 x.2) Fq ((0:Int),List.replicate (n*c) 0)=some (Ga (n*c) (mmV A B k c)):=by
 have hp:=(prod2 n0).2.2
 have hr:=F2 [(n:Int),(c:Int)]
 have hN:((n*c:Nat):Int)≤4096:=by rw [Int.natCast_mul];omega
 have hk:=mm_k A B n k c n1 k1 c1 hA hB bA bB iA iB
 have hnN:n≤n*c:=Nat.le_mul_of_pos_right _ c1
 have hcN:c≤n*c:=Nat.le_mul_of_pos_left _ n1
 rw [Gk _ (mmV A B k c)]
 have h:=Fx (B:=fun go (x:Int×List Int)=>f126_l15 ([(n:Int),(k:Int)],A) ([(k:Int),(c:Int)],B) go x.1 x.2) (fun i=>((i:Int),Kk (n*c) (i*c) (mmV A B k c))) n (Ga (n*c) (mmV A B k c)) ?_ ?_ (by omega)
 ·rw [Nat.zero_mul] at h;exact h
 ·intro i hi go
  unfold f126_l15
  simp only
  have K2:=Fx (B:=fun go (x:Int×List Int)=>f126_l18 ([(n:Int),(k:Int)],A) ([(k:Int),(c:Int)],B) (i:Int) go x.1 x.2) (fun j=>((j:Int),Kk (n*c) (i*c+j) (mmV A B k c))) c (Kk (n*c) ((i+1)*c) (mmV A B k c)) ?_ ?_ (by omega)
  ·rw [Nat.add_zero] at K2
   have inner':Fp (fun go (x:Int×List Int)=>f126_l18 ([(n:Int),(k:Int)],A) ([(k:Int),(c:Int)],B) (i:Int) go x.1 x.2) Fq ((0:Int),Kk (n*c) (i*c) (mmV A B k c))=_:=K2
   rw [show rd (0:Int) [(n:Int),(k:Int)] 0=(n:Int) from rfl,dT,cond_true,inner',A9,Gh i]
  ·intro j hj go
   have hq:=Jm (c:=n) hi hj
   obtain ⟨d1,d2⟩:=K5 (x:=i) hj
   obtain ⟨z,ez,hz⟩:=mm_sumR A B n k c n1 k1 c1 hA hB bA bB iA iB i j hi hj
   obtain ⟨y,ey,hy⟩:=ref_end hz (sg_sm _ _ hk (fun t ht=>mm_p A B n k c n1 k1 c1 hA hB bA bB iA iB hi hj t ht))
   unfold f126_l18
   simp only [F9]
   rw [show rd (0:Int) [(k:Int),(c:Int)] 1=(c:Int) from rfl,dT,cond_true,ez,A9,ey,A9,hy,A9,
    ixM i c j (by omega),Bh,Int.toNat_natCast,Gh j]
   have:=Gu (n*c) (i*c+j) (mmV A B k c) (sat (rhe (sg (mmF A B k c i j) k))) hq (by unfold mmV;rw [d1,d2])
   rw [this]
   rfl
  ·intro go
   unfold f126_l18
   simp only
   rw [show rd (0:Int) [(k:Int),(c:Int)] 1=(c:Int) from rfl,dF,cond_false,Nat.add_mul,Nat.one_mul]
 ·intro go
  unfold f126_l15
  simp only
  rw [show rd (0:Int) [(n:Int),(k:Int)] 0=(n:Int) from rfl,dF,cond_false,Gl]
end
abbrev Lp (a b:Tn):Prop:=a.1.length=2∧b.1.length=2∧rd (0:Int) a.1 1=rd (0:Int) b.1 0
abbrev G4 (a b:Tn):Prop:=Fu a=true∧Fu b=true
def mmS (a b:Tn):Int×Tn:=
 if G4 a b then
  if Lp a b then
   if 0<prd [rd (0:Int) a.1 0,rd (0:Int) b.1 1] then (0,[rd (0:Int) a.1 0,rd (0:Int) b.1 1],Ga ((rd (0:Int) a.1 0).toNat*(rd (0:Int) b.1 1).toNat) (mmV a.2 b.2 (rd (0:Int) a.1 1).toNat (rd (0:Int) b.1 1).toNat))
   else (2,[],[])
  else (4,[],[])
 else (1,[],[])
theorem mm_j4 (a b:Tn):f200_j4 a b=some (!(decide (G4 a b))):=by
 unfold f200_j4
 have e1:f113 (a.1,a.2)=some (Fu a):=F8 a
 have e2:f113 (b.1,b.2)=some (Fu b):=F8 b
 generalize hd:decide (G4 a b)=d
 rw [e1,A9]
 by_cases ha:Fu a=true
 ·rw [ha,Bool.not_true,cond_false,e2,A9]
  by_cases hb:Fu b=true
  ·rw [hb];rw [dT (show G4 a b from ⟨ha,hb⟩)] at hd;rw [← hd]
  ·rw [show Fu b=false by simpa using hb];rw [dF (show ¬G4 a b from fun h=>hb h.2)] at hd;rw [← hd]
 ·rw [show Fu a=false by simpa using ha];rw [dF (show ¬G4 a b from fun h=>ha h.1)] at hd;rw [← hd];rfl
theorem mm_j3r (a b:Tn):f126_j3 a b=some (!(decide (G4 a b))):=by
 unfold f126_j3
 have e1:f118 (a.1,a.2)=some (Fu a):=isR a
 have e2:f118 (b.1,b.2)=some (Fu b):=isR b
 generalize hd:decide (G4 a b)=d
 rw [e1,A9]
 by_cases ha:Fu a=true
 ·rw [ha,Bool.not_true,cond_false,e2,A9]
  by_cases hb:Fu b=true
  ·rw [hb];rw [dT (show G4 a b from ⟨ha,hb⟩)] at hd;rw [← hd]
  ·rw [show Fu b=false by simpa using hb];rw [dF (show ¬G4 a b from fun h=>hb h.2)] at hd;rw [← hd]
 ·rw [show Fu a=false by simpa using ha];rw [dF (show ¬G4 a b from fun h=>ha h.1)] at hd;rw [← hd];rfl
theorem mm_j5 (a b:Tn):f200_j5 a b=some (!(decide (Lp a b))):=by
 unfold f200_j5 f201
 simp only [A9]
 by_cases h1:a.1.length=2
 ·rw [bT (show (a.1.length:Int)=2 by omega),Bool.not_true,cond_false]
  by_cases h2:b.1.length=2
  ·rw [bT (show (b.1.length:Int)=2 by omega),Bool.not_true,cond_false,Bh,Bh]
   by_cases h3:rd (0:Int) a.1 1=rd (0:Int) b.1 0
   ·rw [nF h3,dT (show Lp a b from ⟨h1,h2,h3⟩)];rfl
   ·rw [nT h3,dF (show ¬Lp a b from fun h=>h3 h.2.2)];rfl
  ·rw [bF (show ¬(b.1.length:Int)=2 by omega),dF (show ¬Lp a b from fun h=>h2 h.2.1)];rfl
 ·rw [bF (show ¬(a.1.length:Int)=2 by omega),dF (show ¬Lp a b from fun h=>h1 h.1)];rfl
theorem mm_j6 (a b:Tn):f126_j6 a b=some (!(decide (Lp a b))):=by
 unfold f126_j6
 by_cases h1:a.1.length=2
 ·rw [nF,cond_false]
  by_cases h2:b.1.length=2
  ·rw [nF,cond_false,Bh,Bh]
   by_cases h3:rd (0:Int) a.1 1=rd (0:Int) b.1 0
   ·rw [nF h3,dT (show Lp a b from ⟨h1,h2,h3⟩)];rfl
   ·rw [nT h3,dF (show ¬Lp a b from fun h=>h3 h.2.2)];rfl
  ·rw [nT,dF (show ¬Lp a b from fun h=>h2 h.2.1)];rfl
 ·rw [nT,dF (show ¬Lp a b from fun h=>h1 h.1)];rfl
theorem mmP (a b:Tn) (ia:inI a.2) (ib:inI b.2):f200 a b=some (mmS a b):=by
 unfold mmS
 by_cases h:G4 a b
 ·rw [if_pos h]
  by_cases f:Lp a b
  ·rw [if_pos f]
   obtain ⟨n,k,ea,n1,k1,la,ba⟩:=Gx h.1 f.1
   obtain ⟨k',c,eb,_,c1,lb,bb⟩:=Gx h.2 f.2.1
   have f3:=f.2.2
   clear f h
   generalize a.2=A at *
   generalize b.2=B at *
   subst ea eb
   have fk:(k:Int)=(k':Int):=f3
   have fk':k=k':=by omega
   subst fk'
   exact mm_okP A B n k c n1 k1 c1 la lb ba bb ia ib
  ·rw [if_neg f]
   unfold f200 f200_j3
   rw [mm_j4,dT h,Bool.not_true,A9,cond_false,mm_j5,dF f];rfl
 ·rw [if_neg h]
  unfold f200 f200_j3
  rw [mm_j4,dF h];rfl
theorem mmR (a b:Tn) (ia:inI a.2) (ib:inI b.2):f126 a b=some (mmS a b):=by
 unfold mmS f126 f126_j2 f126_j5
 rw [mm_j3r,A9,mm_j6]
 by_cases h:G4 a b
 ·rw [if_pos h,dT h,Bool.not_true,cond_false,A9,Fl,A9]
  by_cases f:Lp a b
  ·rw [if_pos f,dT f,Bool.not_true,cond_false,A9,Fl]
   obtain ⟨n,k,ea,n1,k1,la,ba⟩:=Gx h.1 f.1
   obtain ⟨k',c,eb,_,c1,lb,bb⟩:=Gx h.2 f.2.1
   have f3:=f.2.2
   clear f h
   generalize a.2=A at *
   generalize b.2=B at *
   subst ea eb
   have fk:(k:Int)=(k':Int):=f3
   have fk':k=k':=by omega
   subst fk'
   rw [Bh (by simp),Bh (by simp),Bh (by simp),show rd (0:Int) [(n:Int),(k:Int)] 0=(n:Int) from rfl,show rd (0:Int) [(k:Int),(c:Int)] 1=(c:Int) from rfl,goodR,A9]
   show _=some (if 0<prd [(n:Int),(c:Int)] then (0,[(n:Int),(c:Int)],Ga (n*c) (mmV A B k c)) else (2,[],[]))
   by_cases n0:0<prd [(n:Int),(c:Int)]
   ·have hp:=(prod2 n0).2.2
    have eN:(prd [(n:Int),(c:Int)]).toNat=n*c:=by rw [hp,← Int.natCast_mul,Int.toNat_natCast]
    rw [dT (show prd [(n:Int),(c:Int)]>0 from n0),if_pos n0,Bool.not_true,cond_false,newR _ _ n0,A9,eN]
    simp only
    rw [mm_loopR A B n k c n1 k1 c1 la lb ba bb ia ib n0,A9]
   ·rw [dF (show ¬prd [(n:Int),(c:Int)]>0 from n0),if_neg n0];rfl
  ·rw [dF f,if_neg f];rfl
 ·rw [dF h,if_neg h];rfl
end Go.Proofs.Cv
namespace Go.Proofs.Op
open Go.AM Go.Proofs.PlB Go.Proofs.PlW Go.Proofs.PlT Go.Proofs.PlS Go.Proofs.Sh Go.Proofs.Num Go.Proofs.Div Go.Proofs.PlR
theorem fits_self {d:List Int} (h:0<prd d):Fits d d:=⟨h,h,Nat.le_refl _,fun k hk h1=>rfl⟩
theorem acc_self {d:List Int} (h:0<prd d) (v:Int) (v0:0≤v) (v1:v≤4096):∀ k,k≤d.length→accS d d v k+Kp d k*rst d v k=v
 | 0,_=>by simp only [accS,rst,Lk];omega
 | k+1,hk=>by
  have ih:=acc_self h v v0 v1 k (by omega)
  obtain ⟨s0,s1⟩:=Gv h k
  rw [Kv d k hk]
  simp only [accS,rst]
  have e:=Int.mul_ediv_add_emod (rst d v k) (Fy d k)
  have e2:(if Fy d k>1 then rst d v k%Fy d k*Kp d k else 0)=rst d v k%Fy d k*Kp d k:=by
   split
   ·rfl
   ·have:Fy d k=1:=by omega
    rw [this,Int.emod_one,Int.zero_mul]
  rw [e2]
  have e3:Fy d k*Kp d k*(rst d v k/Fy d k)=Kp d k*(Fy d k*(rst d v k/Fy d k)):=by
   rw [Int.mul_comm (Fy d k),Int.mul_assoc]
  have e4:Kp d k*rst d v k=Kp d k*(Fy d k*(rst d v k/Fy d k))+rst d v k%Fy d k*Kp d k:=by
   conv=>lhs;rw [← e]
   rw [Int.mul_add,Int.mul_comm (Kp d k) (rst d v k%Fy d k)]
  omega
theorem rst_all {d:List Int} (h:0<prd d) (v:Int) (v0:0≤v) (v1:v<prd d):rst d v d.length=0:=by
 have hr:=F2 d
 have e:=acc_self h v v0 (by omega) d.length (Nat.le_refl _)
 obtain ⟨a,b⟩:=K7 (fits_self h) v v0 (by omega) d.length (Nat.le_refl _)
 obtain ⟨r0,r1⟩:=rst_range h v v0 (by omega) d.length
 rw [strd_all,← (Gw h).1] at e
 by_cases hz:rst d v d.length=0
 ·exact hz
 ·have:prd d*1≤prd d*rst d v d.length:=Int.mul_le_mul_of_nonneg_left (by omega) (by omega)
  omega
theorem spX_self {d:List Int} (h:0<prd d) (i:Nat) (hi:(i:Int)<prd d):spX d d i=i:=by
 have hr:=F2 d
 have e:=acc_self h (i:Int) (by omega) (by omega) d.length (Nat.le_refl _)
 rw [rst_all h _ (by omega) hi,Int.mul_zero,Int.add_zero] at e
 exact e
def addT (a b:Tn):Tn:=(a.1,Ga a.2.length (fun i=>addV (rd (0:Int) a.2 i) (rd (0:Int) b.2 i)))
theorem both_self (f:Int→Int→Int) (a b:Tn) (ga:Fu a=true) (gb:Fu b=true) (h:a.1=b.1):Jd f a b=(0,a.1,Ga a.2.length (fun i=>f (rd (0:Int) a.2 i) (rd (0:Int) b.2 i))):=by
 obtain ⟨pa,la,_,_⟩:=Fw ga
 unfold Jd
 rw [if_pos ⟨ga,gb⟩,← h,jS_fits.2 (fits_self pa),if_pos rfl]
 congr 2
 simp only
 rw [show (prd a.1).toNat=a.2.length by omega]
 exact Ge _ _ _ (fun i hi=>by rw [spX_self pa i (by omega)])
theorem G0 {t:Tn} (h:0<prd t.1) (hl:(t.2.length:Int)=prd t.1):Fu t=true:=by
 unfold Fu;rw [dT (show prd t.1>0 from h),bT hl];rfl
def gn (l:List Nd) (i:Nat):Nd:=rd (Ty.z (.p (.int .i64) (.p (.int .i64) (.p (.int .i64) (.p (.int .i64) (.p (.sl (.int .i64)) (.sl (.int .i64)))))))) l (i:Int)
def F4 (t:Tn):Prop:=Fu t=true∧inI t.2
def vl (l:List Nd) (n:Int):Tn:=if 0≤n∧n<l.length then nd l n.toNat else ([],[])
theorem hasP (l:List Nd) (n:Int):f111 l n=some (decide (0≤n∧n<l.length),l):=by
 unfold f111
 by_cases h:n≥0
 ·rw [dT h,cond_true]
  congr 2
  rw [decide_eq_decide];omega
 ·rw [dF h,cond_false,dF (show ¬(0≤n∧n<l.length) from fun hh=>h hh.1)]
theorem atP (l:List Nd) (i:Nat) (h:i<l.length) (hg:F4 (nd l i)):f74 l (i:Int)=some ((gn l i).1,(gn l i).2.1,(gn l i).2.2.1,(gn l i).2.2.2.1,true,(nd l i).1,(nd l i).2,l):=by
 obtain ⟨_,_,l1,l2⟩:=Fw hg.1
 unfold f74
 rw [hasP,A9,dT]
 simp only [Bool.not_true,cond_false]
 rw [Bh]
 show D4 (f112 (nd l i)) _=_
 rw [copy_t _ (by omega) (by omega),A9]
 rfl
theorem atP_none (l:List Nd) (n:Int) (h:¬(0≤n∧n<l.length)):f74 l n=some (0,0,0,0,false,[],[],l):=by
 unfold f74
 rw [hasP,A9,dF h]
 rfl
theorem valueP (l:List Nd) (n:Int) (hg:∀ i,i<l.length→F4 (nd l i)):f39 l n=some (decide (0≤n∧n<l.length),(vl l n).1,(vl l n).2,l):=by
 unfold f39 vl
 by_cases h:0≤n∧n<l.length
 ·obtain ⟨i,rfl⟩:=Int.eq_ofNat_of_zero_le h.1
  rw [atP l i (by omega) (hg i (by omega)),A9,if_pos h,dT h,Int.toNat_natCast]
 ·rw [atP_none l n h,A9,if_neg h,dF h]
theorem oneT (l:List Nd) (hg:∀ i,i<l.length→F4 (nd l i)) (i:Nat) (h:i<l.length) (g ga gb:Tn) (gg:Fu g=true) (hd:g.1=(nd l i).1)
  (hA:f115 (gn l i) (vl l (gn l i).2.1) (vl l (gn l i).2.2.1) g=some (0,ga)) (hB:f116 (gn l i) (vl l (gn l i).2.1) (vl l (gn l i).2.2.1) g=some (0,gb)) :
  f75 l (i:Int) g=some (0,ga.1,ga.2,gb.1,gb.2,l):=by
 obtain ⟨_,_,l1,_⟩:=Fw gg
 unfold f75
 rw [atP l i h (hg i h),A9]
 have hj:f75_j2 g ((gn l i).1,(gn l i).2.1,(gn l i).2.2.1,(gn l i).2.2.2.1,true,(nd l i).1,(nd l i).2,l)=some (Sum.inl ()):=by
  unfold f75_j2 f75_j3
  simp only [Bool.not_true,cond_false]
  rw [show ((g.1,g.2):Tn)=g from rfl,F8,gg,sameP _ _ (by omega),dT hd]
  rfl
 rw [hj,A9,Fl]
 simp only
 rw [valueP l _ hg,A9]
 simp only
 rw [valueP l _ hg,A9]
 have eA:f115 ((gn l i).1,(gn l i).2.1,(gn l i).2.2.1,(gn l i).2.2.2.1,(nd l i).1,(nd l i).2) ((vl l (gn l i).2.1).1,(vl l (gn l i).2.1).2) ((vl l (gn l i).2.2.1).1,(vl l (gn l i).2.2.1).2) (g.1,g.2)=some (0,ga):=hA
 have eB:f116 ((gn l i).1,(gn l i).2.1,(gn l i).2.2.1,(gn l i).2.2.2.1,(nd l i).1,(nd l i).2) ((vl l (gn l i).2.1).1,(vl l (gn l i).2.1).2) ((vl l (gn l i).2.2.1).1,(vl l (gn l i).2.2.1).2) (g.1,g.2)=some (0,gb):=hB
 rw [eA,A9,nF rfl,cond_false,eB,A9,nF rfl,cond_false]
structure NodeOk (l:List Nd) (i:Nat) (ga gb:Tn→Tn):Prop where
 okFA:∀ g,F4 g→g.1=(nd l i).1→f115 (gn l i) (vl l (gn l i).2.1) (vl l (gn l i).2.2.1) g=some (0,ga g)
 okFB:∀ g,F4 g→g.1=(nd l i).1→f116 (gn l i) (vl l (gn l i).2.1) (vl l (gn l i).2.2.1) g=some (0,gb g)
 okTA:∀ g,F4 g→g.1=(nd l i).1→0≤(gn l i).2.1→(gn l i).2.1<i∧F4 (ga g)∧(ga g).1=(nd l (gn l i).2.1.toNat).1
 okTB:∀ g,F4 g→g.1=(nd l i).1→0≤(gn l i).2.2.1→(gn l i).2.2.1<i∧F4 (gb g)∧(gb g).1=(nd l (gn l i).2.2.1.toNat).1
abbrev Z2:Tn:=Ty.z (.p (.sl (.int .i64)) (.sl (.int .i64)))
def giveS (st:List Tn×List Bool) (n:Int) (g:Tn):List Tn×List Bool:=
 if n<0 then st else (st.1.set n.toNat (addT (rd Z2 st.1 n) g),st.2.set n.toNat true)
def zer (l:List Nd) (i:Nat):Tn:=((nd l i).1,List.replicate (prd (nd l i).1).toNat 0)
def Kd (l:List Nd) (k:Nat):List Tn:=(List.range k).map (zer l)
theorem G3 (l:List Nd) (k:Nat):(Kd l k).length=k:=by simp [Kd]
theorem glist_succ (l:List Nd) (k:Nat):Kd l (k+1)=Kd l k++[zer l k]:=by simp [Kd,List.range_succ]
def swp (l:List Nd) (GA GB:Nat→Tn→Tn) (root:Nat):Nat→List Tn×List Bool
 | 0=>(Kd l root++[((nd l root).1,[4294967296])],(List.replicate (root+1) false).set root true)
 | k+1=>if rd false (swp l GA GB root k).2 ((root-k:Nat):Int)=true then
   giveS (giveS (swp l GA GB root k) (gn l (root-k)).2.1 (GA (root-k) (rd Z2 (swp l GA GB root k).1 ((root-k:Nat):Int)))) (gn l (root-k)).2.2.1 (GB (root-k) (rd Z2 (swp l GA GB root k).1 ((root-k:Nat):Int)))
  else swp l GA GB root k
structure Keeps (l:List Nd) (root:Nat) (st:List Tn×List Bool):Prop where
 l1:st.1.length=root+1
 l2:st.2.length=root+1
 ok:∀ i,i≤root→F4 (rd Z2 st.1 (i:Int))∧(rd Z2 st.1 (i:Int)).1=(nd l i).1
theorem rd_set {α:Type} (z:α) (xs:List α) (i j:Nat) (v:α) (hj:j<xs.length):rd z (xs.set i v) (j:Int)=if i=j then v else rd z xs (j:Int):=by
 rw [Gg _ _ _ (by rw [List.length_set];exact hj),List.getElem_set]
 split
 ·rfl
 ·rw [Gg _ _ _ hj]
theorem good_addT {a b:Tn} (ha:F4 a) (h:a.1=b.1):F4 (addT a b)∧(addT a b).1=a.1:=by
 obtain ⟨pa,la,_,_⟩:=Fw ha.1
 exact ⟨⟨G0 pa (by unfold addT;rw [Gb];exact la),inI_tab (fun i hi=>Jg _)⟩,rfl⟩
theorem giveP (l:List Nd) (root:Nat) (st:List Tn×List Bool) (K:Keeps l root st) (n:Int) (g:Tn) (h:0≤n→n≤root∧F4 g∧g.1=(nd l n.toNat).1) :
  f76 st.1 st.2 n g=some (0,giveS st n g)∧Keeps l root (giveS st n g):=by
 unfold f76 giveS
 by_cases hn:n<0
 ·rw [dT hn,if_pos hn];exact ⟨rfl,K⟩
 ·obtain ⟨h1,h2,h3⟩:=h (by omega)
  obtain ⟨i,rfl⟩:=Int.eq_ofNat_of_zero_le (show 0≤n by omega)
  rw [Int.toNat_natCast] at h3
  obtain ⟨k1,k2⟩:=K.ok i (by omega)
  have l1:=K.l1
  have l2:=K.l2
  rw [dF hn,if_neg hn,cond_false,Bh]
  have ea:f117 ((rd Z2 st.1 (i:Int)).1,(rd Z2 st.1 (i:Int)).2) (g.1,g.2)=some (0,addT (rd Z2 st.1 (i:Int)) g):=by
   rw [show (((rd Z2 st.1 (i:Int)).1,(rd Z2 st.1 (i:Int)).2):Tn)=rd Z2 st.1 (i:Int) from rfl,show ((g.1,g.2):Tn)=g from rfl,addP _ _ k1.2 h2.2,both_self _ _ _ k1.1 h2.1 (by rw [k2,h3])]
   rfl
  have ea2:f117 ((rd (Ty.z (.p (.sl (.int .i64)) (.sl (.int .i64)))) st.1 (i:Int)).1,(rd (Ty.z (.p (.sl (.int .i64)) (.sl (.int .i64)))) st.1 (i:Int)).2) (g.1,g.2)=some (0,addT (rd Z2 st.1 (i:Int)) g):=ea
  rw [ea2,A9,Bh,Bh]
  refine ⟨rfl,by simp only [List.length_set];exact l1,by simp only [List.length_set];exact l2,fun j hj=>?_⟩
  simp only [Int.toNat_natCast]
  rw [rd_set _ _ _ _ _ (by omega)]
  obtain ⟨q1,q2⟩:=good_addT (a:=rd Z2 st.1 (i:Int)) (b:=g) k1 (by rw [k2,h3])
  split
  ·next e=>subst e;exact ⟨q1,by rw [q2,k2]⟩
  ·exact K.ok j hj
theorem rd_app {α:Type} (z:α) (l:List α) (v:α) (i:Nat) (h:i<l.length):rd z (l++[v]) (i:Int)=rd z l (i:Int):=by
 rw [Gg _ _ _ (by rw [List.length_append];simp;omega),Gg _ _ _ h,List.getElem_append_left h]
theorem rd_last {α:Type} (z:α) (l:List α) (v:α):rd z (l++[v]) (l.length:Int)=v:=by
 rw [Gg _ _ _ (by rw [List.length_append];simp),List.getElem_append_right (Nat.le_refl _)]
 simp
theorem glist_rd (l:List Nd) (k i:Nat) (h:i<k):rd Z2 (Kd l k) (i:Int)=zer l i:=by
 rw [Gg _ _ _ (by rw [G3];exact h)];simp [Kd]
theorem zer_good (l:List Nd) (i:Nat) (h:F4 (nd l i)):F4 (zer l i):=by
 obtain ⟨p,_,_,_⟩:=Fw h.1
 have:=F2 (nd l i).1
 refine ⟨G0 p ?_,inI_rep _ _ (by decide)⟩
 unfold zer;simp only [List.length_replicate];omega
theorem keeps0 (l:List Nd) (GA GB:Nat→Tn→Tn) (root:Nat) (hr:root<l.length) (hg:∀ i,i<l.length→F4 (nd l i)) (h1:prd (nd l root).1=1):Keeps l root (swp l GA GB root 0):=by
 refine ⟨by simp [swp,G3],by simp [swp],fun i hi=>?_⟩
 simp only [swp]
 by_cases h:i<root
 ·rw [rd_app _ _ _ _ (by rw [G3];exact h),glist_rd _ _ _ h]
  exact ⟨zer_good l i (hg i (by omega)),rfl⟩
 ·obtain rfl:i=root:=by omega
  have e:=rd_last Z2 (Kd l i) ((nd l i).1,[4294967296])
  rw [G3] at e
  rw [e]
  exact ⟨⟨G0 (by simp only;omega) (by simp only [List.length_cons,List.length_nil];omega),fun x hx=>by rw [List.mem_singleton.1 hx];decide⟩,rfl⟩
theorem keeps (l:List Nd) (GA GB:Nat→Tn→Tn) (root:Nat) (hr:root<l.length) (hg:∀ i,i<l.length→F4 (nd l i)) (h1:prd (nd l root).1=1)
  (hn:∀ n,n≤root→NodeOk l n (GA n) (GB n)):∀ k,k≤root+1→Keeps l root (swp l GA GB root k)
 | 0,_=>keeps0 l GA GB root hr hg h1
 | k+1,hk=>by
  have K:=keeps l GA GB root hr hg h1 hn k (by omega)
  simp only [swp]
  split
  ·have N:=hn (root-k) (by omega)
   obtain ⟨q1,q2⟩:=K.ok (root-k) (by omega)
   have s1:=giveP l root _ K (gn l (root-k)).2.1 (GA (root-k) (rd Z2 (swp l GA GB root k).1 ((root-k:Nat):Int))) (fun h=>by
    obtain ⟨a,b,c⟩:=N.okTA _ q1 q2 h;exact ⟨by omega,b,c⟩)
   exact (giveP l root _ s1.2 (gn l (root-k)).2.2.1 (GB (root-k) (rd Z2 (swp l GA GB root k).1 ((root-k:Nat):Int))) (fun h=>by
    obtain ⟨a,b,c⟩:=N.okTB _ q1 q2 h;exact ⟨by omega,b,c⟩)).2
  ·exact K
def sw1 (l:List Nd):Nat→Int×List Nd×List Tn×Int×List Int×List Int
 | 0=>(0,l,[],0,[],[])
 | k+1=>(((k+1:Nat):Int),l,Kd l k++[Z2],(k:Int),(zer l k).1,(zer l k).2)
theorem set_last {α:Type} (l:List α) (v w:α):(l++[v]).set l.length w=l++[w]:=by
 rw [List.set_append_right _ _ (Nat.le_refl _)];simp
theorem sweepP (l:List Nd) (GA GB:Nat→Tn→Tn) (root:Nat) (hr:root<l.length) (hl:l.length≤512) (hg:∀ i,i<l.length→F4 (nd l i)) (h1:prd (nd l root).1=1)
  (hn:∀ n,n≤root→NodeOk l n (GA n) (GB n)):f38 l (root:Int)=some (0,(swp l GA GB root (root+1)).1,l):=by
 have hroot:=hg root hr
 obtain ⟨_,lr,lr1,_⟩:=Fw hroot.1
 unfold f38
 rw [valueP l _ hg,A9]
 have ev:vl l (root:Int)=nd l root:=by unfold vl;rw [iPo,Int.toNat_natCast]
 simp only [ev]
 rw [dT (show 0≤(root:Int)∧(root:Int)<l.length by omega),Bool.not_true,cond_false,dF (show ¬((nd l root).2.length:Int)>1 by omega),cond_false]
 have wr:IntKind.i64.wrap ((root:Int)+1)=((root+1:Nat):Int):=by rw [E9];omega
 rw [wr,Bh]
 have L1:=Fx (B:=fun go (x:Int×List Nd×List Tn×Int×List Int×List Int)=>f38_l1 (root:Int) go x.1 x.2.1 x.2.2.1 x.2.2.2.1 x.2.2.2.2.1 x.2.2.2.2.2) (sw1 l) (root+1) (sw1 l (root+1)).2 ?_ ?_ (by omega)
 ·have e0:sw1 l 0=((0:Int),l,[],(0:Int),[],[]):=rfl
  rw [e0,show (sw1 l (root+1)).2=(l,Kd l root++[Z2],(root:Int),(zer l root).1,(zer l root).2) from rfl] at L1
  rw [L1,A9]
  simp only
  rw [Bh (by rw [List.length_append,G3];simp;omega),Bh trivial]
  have hz:(zer l root).2=[0]:=by unfold zer;rw [h1];rfl
  rw [hz,Bh (by decide),Bh (by simp;omega)]
  have es:List.set (Kd l root++[Z2]) (Int.toNat (root:Int)) ((zer l root).1,List.set [(0:Int)] (Int.toNat (0:Int)) 4294967296)=(swp l GA GB root 0).1:=by
   have:=set_last (Kd l root) Z2 ((zer l root).1,List.set [(0:Int)] (Int.toNat (0:Int)) 4294967296)
   rw [G3] at this
   rw [Int.toNat_natCast,this];rfl
  have eg:List.set (List.replicate (Int.toNat ((root+1:Nat):Int)) false) (Int.toNat (root:Int)) true=(swp l GA GB root 0).2:=by
   rw [Int.toNat_natCast,Int.toNat_natCast];rfl
  rw [es,eg]
  have L2:=Fx (B:=fun go (x:Int×List Nd×List Tn×List Bool)=>f38_l2 go x.1 x.2.1 x.2.2.1 x.2.2.2) (fun k=>((root:Int)-(k:Int),l,(swp l GA GB root k).1,(swp l GA GB root k).2)) (root+1)
   (Sum.inr ((swp l GA GB root (root+1)).1,(swp l GA GB root (root+1)).2,l)) ?_ ?_ (by omega)
  ·have e2:((root:Int)-((0:Nat):Int),l,(swp l GA GB root 0).1,(swp l GA GB root 0).2)=((root:Int),l,(swp l GA GB root 0).1,(swp l GA GB root 0).2):=by
    rw [show (root:Int)-((0:Nat):Int)=(root:Int) by omega]
   rw [e2] at L2
   rw [L2,A9,F6]
  ·intro k hk go
   have K:=keeps l GA GB root hr hg h1 hn k (by omega)
   have kl1:=K.l1
   have kl2:=K.l2
   unfold f38_l2
   simp only
   rw [show (root:Int)-(k:Int)=((root-k:Nat):Int) by omega,dT,cond_true,Bh]
   have wn:IntKind.i64.wrap (((root-k:Nat):Int)-1)=(root:Int)-((k+1:Nat):Int):=by rw [E9];omega
   simp only [swp]
   cases hb:rd false (swp l GA GB root k).2 ((root-k:Nat):Int)
   ·rw [Bool.not_false,cond_true,wn,if_neg (by decide)]
   ·rw [Bool.not_true,cond_false,if_pos rfl]
    have N:=hn (root-k) (by omega)
    obtain ⟨q1,q2⟩:=K.ok (root-k) (by omega)
    rw [atP l (root-k) (by omega) (hg _ (by omega)),A9,Bh]
    simp only
    have eo:=oneT l hg (root-k) (by omega) _ _ _ q1.1 q2 (N.okFA _ q1 q2) (N.okFB _ q1 q2)
    have eo2:f75 l ((root-k:Nat):Int) ((rd (Ty.z (.p (.sl (.int .i64)) (.sl (.int .i64)))) (swp l GA GB root k).1 ((root-k:Nat):Int)).1,(rd (Ty.z (.p (.sl (.int .i64)) (.sl (.int .i64)))) (swp l GA GB root k).1 ((root-k:Nat):Int)).2)=_:=eo
    have s1:=giveP l root _ K (gn l (root-k)).2.1 (GA (root-k) (rd Z2 (swp l GA GB root k).1 ((root-k:Nat):Int))) (fun h=>by
     obtain ⟨a,b,c⟩:=N.okTA _ q1 q2 h;exact ⟨by omega,b,c⟩)
    have s2:=giveP l root _ s1.2 (gn l (root-k)).2.2.1 (GB (root-k) (rd Z2 (swp l GA GB root k).1 ((root-k:Nat):Int))) (fun h=>by
     obtain ⟨a,b,c⟩:=N.okTB _ q1 q2 h;exact ⟨by omega,b,c⟩)
    rw [eo2,A9,nF rfl,cond_false]
    simp only
    have g1:f76 (swp l GA GB root k).1 (swp l GA GB root k).2 (gn l (root-k)).2.1 ((GA (root-k) (rd Z2 (swp l GA GB root k).1 ((root-k:Nat):Int))).1,(GA (root-k) (rd Z2 (swp l GA GB root k).1 ((root-k:Nat):Int))).2)=_:=s1.1
    rw [g1,A9,nF rfl,cond_false]
    simp only
    have g2:f76 _ _ (gn l (root-k)).2.2.1 ((GB (root-k) (rd Z2 (swp l GA GB root k).1 ((root-k:Nat):Int))).1,(GB (root-k) (rd Z2 (swp l GA GB root k).1 ((root-k:Nat):Int))).2)=_:=s2.1
    rw [g2,A9,nF rfl,cond_false,wn]
  ·intro go
   unfold f38_l2
   simp only
   rw [dF,cond_false]
 ·intro k hk go
  have hgk:=hg k (by omega)
  obtain ⟨pk,_,_,_⟩:=Fw hgk.1
  have evk:vl l (k:Int)=nd l k:=by unfold vl;rw [iPo,Int.toNat_natCast]
  have en:f73 (nd l k).1 0=some (0,(zer l k).1,(zer l k).2):=by rw [Ky,if_pos pk];rfl
  cases k with
  | zero=>
   show f38_l1 (root:Int) go 0 l [] 0 [] []=go (((0+1:Nat):Int),l,Kd l 0++[Z2],((0:Nat):Int),(zer l 0).1,(zer l 0).2)
   unfold f38_l1
   rw [show ((0:Nat):Int)=0 from rfl] at evk
   rw [wr,dT,cond_true,valueP l _ hg,A9]
   simp only
   rw [evk,en,A9,Bh (by simp)]
   rfl
  | succ j=>
   show f38_l1 (root:Int) go ((j+1:Nat):Int) l (Kd l j++[Z2]) (j:Int) (zer l j).1 (zer l j).2=go (((j+1+1:Nat):Int),l,Kd l (j+1)++[Z2],((j+1:Nat):Int),(zer l (j+1)).1,(zer l (j+1)).2)
   unfold f38_l1
   rw [wr,dT,cond_true,valueP l _ hg,A9]
   simp only
   rw [evk,en,A9]
   have es:List.set (Kd l j++[Z2]) (Int.toNat (j:Int)) ((zer l j).1,(zer l j).2)=Kd l (j+1):=by
    have:=set_last (Kd l j) Z2 ((zer l j).1,(zer l j).2)
    rw [G3] at this
    rw [Int.toNat_natCast,this,glist_succ]
   rw [es,Bh (by rw [G3];omega),E9,G3]
   rfl
 ·intro go
  show f38_l1 (root:Int) go ((root+1:Nat):Int) l (Kd l root++[Z2]) (root:Int) (zer l root).1 (zer l root).2=_
  unfold f38_l1
  rw [wr,dF,cond_false]
  rfl
end Go.Proofs.Op
namespace Go.Proofs.Cv
open Go.AM Go.Proofs.PlB Go.Proofs.PlW Go.Proofs.PlT Go.Proofs.PlS Go.Proofs.Sh Go.Proofs.Num Go.Proofs.Div Go.Proofs.Op
def hor (d p:List Int):Nat→Int
 | 0=>0
 | k+1=>hor d p k*rd (0:Int) d (k:Int)+rd (0:Int) p (k:Int)
theorem prodL_app:∀ a b:List Int,Ft (a++b)=Ft a*Ft b
 | [],b=>by simp [Ft]
 | x::a,b=>by simp only [List.cons_append,Ft];rw [prodL_app a b,Int.mul_assoc]
theorem Kt {d:List Int} (k:Nat) (h:k<d.length):Ft (d.take (k+1))=Ft (d.take k)*rd (0:Int) d (k:Int):=by
 rw [List.take_succ_eq_append_getElem h,prodL_app,Gg _ _ _ h]
 simp [Ft]
theorem prodL_le {d:List Int} (hd:∀ x ∈ d,1≤x) (k:Nat):1≤Ft (d.take k)∧Ft (d.take k)≤Ft d:=by
 have h1:=G8 (d.take k) (fun x hx=>hd x (List.mem_of_mem_take hx))
 have h2:=G8 (d.drop k) (fun x hx=>hd x (List.mem_of_mem_drop hx))
 refine ⟨h1,?_⟩
 have e:Ft d=Ft (d.take k)*Ft (d.drop k):=by rw [← prodL_app,List.take_append_drop]
 rw [e]
 have:=Int.mul_le_mul_of_nonneg_left h2 (show 0≤Ft (d.take k) by omega)
 omega
structure Within (d p:List Int):Prop where
 len:p.length=d.length
 lo:∀ k,k<d.length→0≤rd (0:Int) p (k:Int)
 hi:∀ k,k<d.length→rd (0:Int) p (k:Int)<rd (0:Int) d (k:Int)
theorem hor_in {d p:List Int} (W:Within d p):∀ k,k≤d.length→0≤hor d p k∧hor d p k<Ft (d.take k)
 | 0,_=>by simp [hor,Ft]
 | k+1,h=>by
  obtain ⟨h1,h2⟩:=hor_in W k (by omega)
  have l:=W.lo k (by omega)
  have u:=W.hi k (by omega)
  rw [Kt k (by omega)]
  simp only [hor]
  have m1:0≤hor d p k*rd (0:Int) d (k:Int):=Int.mul_nonneg h1 (by omega)
  have m2:(hor d p k+1)*rd (0:Int) d (k:Int)≤Ft (d.take k)*rd (0:Int) d (k:Int):=Int.mul_le_mul_of_nonneg_right (by omega) (by omega)
  rw [Int.add_mul,Int.one_mul] at m2
  constructor <;> omega
theorem hor_small {d p:List Int} (hd:0<prd d) (W:Within d p) (k:Nat) (hk:k≤d.length):0≤hor d p k∧hor d p k<prd d∧hor d p k<4096:=by
 obtain ⟨e,h1,h2⟩:=Gw hd
 have hr:=F2 d
 obtain ⟨a,b⟩:=hor_in W k hk
 obtain ⟨_,c⟩:=prodL_le (fun x hx=>(h1 x hx).1) k
 omega
theorem hor_step {d p:List Int} (hd:0<prd d) (W:Within d p) (k:Nat) (hk:k<d.length) :
  IntKind.i64.wrap (IntKind.i64.wrap (hor d p k*rd (0:Int) d (k:Int))+rd (0:Int) p (k:Int))=hor d p (k+1):=by
 obtain ⟨a,b,c⟩:=hor_small hd W k (by omega)
 obtain ⟨a2,b2,c2⟩:=hor_small hd W (k+1) hk
 have l:=W.lo k hk
 have u:=W.hi k hk
 simp only [hor] at a2 b2 c2 ⊢
 have m1:0≤hor d p k*rd (0:Int) d (k:Int):=Int.mul_nonneg a (by omega)
 rw [E9 (n:=hor d p k*rd (0:Int) d (k:Int)) (by omega) (by omega),E9]
theorem atR {d p:List Int} (hd:0<prd d) (W:Within d p):f128 d p=some (hor d p d.length,true):=by
 have hl:=Gy hd
 have hp:=W.len
 unfold f128 f128_j1
 rw [goodR,A9,dT (show prd d>0 from hd),Bool.not_true,cond_false,nF,cond_false,A9,Fl]
 have h:=Fx (B:=fun go (x:Int×Int)=>f128_l4 d p go x.1 x.2) (fun k=>(hor d p k,(k:Int))) d.length (Sum.inr (hor d p d.length)) ?_ ?_ (by omega)
 ·have h':Fp (fun go (x:Int×Int)=>f128_l4 d p go x.1 x.2) Fq ((0:Int),(0:Int))=_:=h
  rw [h',A9,F6]
 ·intro k hk go
  have l:=W.lo k hk
  have u:=W.hi k hk
  have hj:f128_j5 d p (k:Int)=some (Sum.inl ()):=by
   unfold f128_j5
   rw [Bh,dF,cond_false,Bh,Bh,dF];rfl
  unfold f128_l4
  simp only
  rw [dT,cond_true,hj,A9,Fl,Bh,Bh,hor_step hd W k hk,Gh k]
 ·intro go
  unfold f128_l4
  simp only
  rw [dF,cond_false]
theorem rst_step {d:List Int} (h:0<prd d) (v:Int) (k:Nat) (hk:k<d.length):rst d v (k+1)*Fy d k+rst d v k%Fy d k=rst d v k:=by
 have:=Gv h k
 show rst d v k/Fy d k*Fy d k+rst d v k%Fy d k=rst d v k
 rw [Int.mul_comm];exact Int.mul_ediv_add_emod _ _
theorem rd_side (d:List Int) (j:Nat) (hj:j<d.length):rd (0:Int) d (j:Int)=Fy d (d.length-1-j):=by
 have:=Lh d (d.length-1-j) (by omega)
 rw [show d.length-1-(d.length-1-j)=j by omega] at this
 exact this
theorem rd_plc (d:List Int) (v:Int) (j:Nat) (hj:j<d.length):rd (0:Int) (plc d v) (j:Int)=rst d v (d.length-1-j)%Fy d (d.length-1-j):=by
 have:=plc_rd d v (d.length-1-j) (by omega)
 rw [show d.length-1-(d.length-1-j)=j by omega] at this
 exact this
theorem plc_within {d:List Int} (h:0<prd d) (v:Int):Within d (plc d v):=
 ⟨plc_len d v,fun k hk=>by rw [rd_plc d v k hk];have:=Gv h (d.length-1-k);exact Int.emod_nonneg _ (by omega),
  fun k hk=>by rw [rd_plc d v k hk,rd_side d k hk];have:=Gv h (d.length-1-k);exact Int.emod_lt_of_pos _ (by omega)⟩
theorem hor_plc {d:List Int} (h:0<prd d) (v:Int) (v0:0≤v) (v1:v<prd d):∀ j,j≤d.length→hor d (plc d v) j=rst d v (d.length-j)
 | 0,_=>by rw [Nat.sub_zero,rst_all h v v0 v1];rfl
 | j+1,hj=>by
  simp only [hor]
  rw [hor_plc h v v0 v1 j (by omega),rd_plc d v j (by omega),rd_side d j (by omega),show d.length-j=(d.length-1-j)+1 by omega,rst_step h v _ (by omega),show d.length-1-j=d.length-(j+1) by omega]
theorem sg_add (F:Nat→Int) (a:Nat):∀ b,sg F (a+b)=sg F a+sg (fun y=>F (a+y)) b
 | 0=>by simp [sg]
 | b+1=>by
  rw [← Nat.add_assoc]
  simp only [sg]
  rw [sg_add F a b];omega
theorem sg_split (F:Nat→Int) (b:Nat):∀ a,sg F (a*b)=sg (fun x=>sg (fun y=>F (x*b+y)) b) a
 | 0=>by simp [sg]
 | a+1=>by
  rw [Nat.add_mul,Nat.one_mul,sg_add,sg_split F b a]
  rfl
theorem sg_zero (F:Nat→Int):∀ n,(∀ k,k<n→F k=0)→sg F n=0
 | 0,_=>rfl
 | n+1,h=>by simp only [sg];rw [sg_zero F n (fun k hk=>h k (by omega)),h n (by omega)];rfl
theorem sg_one (F:Nat→Int) (a:Nat):∀ n,a<n→(∀ k,k<n→k≠a→F k=0)→sg F n=F a
 | 0,h,_=>absurd h (by omega)
 | n+1,h,hz=>by
  simp only [sg]
  by_cases e:n=a
  ·subst e
   rw [sg_zero F n (fun k hk=>hz k (by omega) (by omega)),Int.zero_add]
  ·rw [sg_one F a n (by omega) (fun k hk=>hz k (by omega)),hz n (by omega) e,Int.add_zero]
def goes (D st i:Nat):Nat:=i/(st*D)*st+i%st
def ixs (D st v k:Nat):Nat:=(v/st*D+k)*st+v%st
theorem goes_at (D st x k l:Nat) (hk:k<D) (hl:l<st):goes D st (x*(D*st)+(k*st+l))=x*st+l:=by
 have h0:k*st+l<D*st:=Jm hk hl
 unfold goes
 rw [Nat.mul_comm st D,(K5 (x:=x) h0).1]
 have e:x*(D*st)+(k*st+l)=(x*D+k)*st+l:=by rw [Nat.add_mul,Nat.mul_assoc];omega
 rw [e,(K5 (x:=x*D+k) hl).2]
theorem sums_eq (V:Nat→Int) (H D st v:Nat) (hst:0<st) (hv:v<H*st) :
  sg (fun i=>if goes D st i=v then V i else 0) (H*(D*st))=sg (fun k=>V (ixs D st v k)) D:=by
 have hR:v/st<H:=Nat.div_lt_of_lt_mul (by rw [Nat.mul_comm];exact hv)
 have hl0:v%st<st:=Nat.mod_lt _ hst
 have hv2:v/st*st+v%st=v:=by rw [Nat.mul_comm];exact Nat.div_add_mod v st
 rw [sg_split]
 rw [sg_one _ (v/st) H hR (fun x hx hne=>sg_zero _ _ (fun y hy=>by
  have h0:0<D*st:=by omega
  have hk:y/st<D:=Nat.div_lt_of_lt_mul (by rw [Nat.mul_comm];exact hy)
  have hl:y%st<st:=Nat.mod_lt _ hst
  have ey:y/st*st+y%st=y:=by rw [Nat.mul_comm];exact Nat.div_add_mod y st
  have g:=goes_at D st x (y/st) (y%st) hk hl
  rw [ey] at g
  rw [g,if_neg]
  intro e
  have:=(K5 (x:=x) hl).1
  rw [e] at this
  exact hne this.symm))]
 rw [sg_split]
 refine L6 D (fun k hk=>?_)
 rw [sg_one _ (v%st) st hl0 (fun l hl hne=>by
  rw [goes_at D st _ k l hk hl,if_neg]
  intro e
  exact hne (by omega)),goes_at D st _ k _ hk hl0,if_pos hv2]
 unfold ixs
 congr 1
 rw [Nat.add_mul,Nat.mul_assoc];omega
theorem pgo_of:∀ (d:List Int) (n:Int),1≤n→(∀ x ∈ d,1≤x∧x≤4096)→n*Ft d≤4096→pgo n d=n*Ft d
 | [],n,_,_,_=>by simp [pgo,Ft]
 | x::d,n,hn,h,hp=>by
  have hx:=h x (by simp)
  have hd:∀ y ∈ d,1≤y∧y≤4096:=fun y hy=>h y (by simp [hy])
  have p1:=G8 d (fun y hy=>(hd y hy).1)
  simp only [Ft] at hp ⊢
  have e:n*(x*Ft d)=n*x*Ft d:=by rw [Int.mul_assoc]
  have nx:1≤n*x:=by have:=Int.mul_le_mul hn hx.1 (by omega) (by omega);omega
  have le:n*x≤n*x*Ft d:=by have:=Int.mul_le_mul_of_nonneg_left p1 (show 0≤n*x by omega);omega
  rw [e] at hp ⊢
  have:=pgo_of d (n*x) nx hd hp
  simp only [pgo]
  rw [iNo,this]
theorem rd_take {d X:List Int} {j t:Nat} (ht:t<j) (hj:j≤d.length):rd (0:Int) (d.take j++X) (t:Int)=rd (0:Int) d (t:Int):=by
 rw [Gg _ _ _ (by rw [List.length_append,List.length_take];omega),Gg _ _ _ (by omega),List.getElem_append_left (by rw [List.length_take];omega),List.getElem_take]
theorem rd_skip {d X:List Int} {j t:Nat} (hj:j≤d.length) (ht:t<X.length):rd (0:Int) (d.take j++X) ((j+t:Nat):Int)=rd (0:Int) X (t:Int):=by
 have hl:(d.take j).length=j:=by rw [List.length_take];omega
 rw [Gg _ _ _ (by rw [List.length_append,hl];omega),Gg _ _ _ ht,List.getElem_append_right (by rw [hl];omega)]
 congr 1
 rw [hl];omega
theorem rd_dropL {d:List Int} {j t:Nat} (ht:j+t<d.length):rd (0:Int) (d.drop j) (t:Int)=rd (0:Int) d ((j+t:Nat):Int):=by
 rw [Gg _ _ _ (by rw [List.length_drop];omega),Gg _ _ _ ht,List.getElem_drop]
def K8 (d:List Int) (j:Nat):List Int:=d.take j++d.drop (j+1)
structure Cut (d:List Int) (j H D st:Nat):Prop where
 hj:j<d.length
 pos:0<prd d
 H1:1≤H
 D1:1≤D
 s1:1≤st
 eH:Ft (d.take j)=(H:Int)
 eD:rd (0:Int) d (j:Int)=(D:Int)
 eS:Ft (d.drop (j+1))=(st:Int)
 eN:prd d=((H*(D*st):Nat):Int)
 le:H*(D*st)≤4096
 leM:H*st≤4096
 posM:0<prd (K8 d j)
 eM:prd (K8 d j)=((H*st:Nat):Int)
theorem cut_of {d:List Int} {j:Nat} (h:0<prd d) (hj:j<d.length):∃ H D st:Nat,Cut d j H D st:=by
 obtain ⟨e,h1,h2⟩:=Gw h
 have hr:=F2 d
 have pH:=G8 (d.take j) (fun x hx=>(h1 x (List.mem_of_mem_take hx)).1)
 have pS:=G8 (d.drop (j+1)) (fun x hx=>(h1 x (List.mem_of_mem_drop hx)).1)
 have pD:1≤rd (0:Int) d (j:Int):=by rw [Gg _ _ _ hj];exact (h1 _ (List.getElem_mem hj)).1
 obtain ⟨H,eH⟩:=Int.eq_ofNat_of_zero_le (show 0≤Ft (d.take j) by omega)
 obtain ⟨D,eD⟩:=Int.eq_ofNat_of_zero_le (show 0≤rd (0:Int) d (j:Int) by omega)
 obtain ⟨st,eS⟩:=Int.eq_ofNat_of_zero_le (show 0≤Ft (d.drop (j+1)) by omega)
 have eN:prd d=((H*(D*st):Nat):Int):=by
  rw [e,Int.natCast_mul,Int.natCast_mul,← eH,← eD,← eS]
  have:Ft d=Ft (d.take j)*Ft (d.drop j):=by rw [← prodL_app,List.take_append_drop]
  rw [this,List.drop_eq_getElem_cons hj]
  simp only [Ft]
  rw [Gg _ _ _ hj]
 have le:H*(D*st)≤4096:=by omega
 have D1:1≤D:=by omega
 have leM:H*st≤4096:=Nat.le_trans (Nat.mul_le_mul_left _ (Nat.le_mul_of_pos_left _ D1)) le
 have eM:prd (K8 d j)=((H*st:Nat):Int):=by
  have ep:Ft (K8 d j)=((H*st:Nat):Int):=by unfold K8;rw [prodL_app,eH,eS,Int.natCast_mul]
  have hl:(K8 d j).length≤4:=by unfold K8;rw [List.length_append,List.length_take,List.length_drop];omega
  unfold prd
  rw [iNo,pgo_of _ 1 (by omega) (fun x hx=>by
   unfold K8 at hx
   rcases List.mem_append.1 hx with hx | hx
   ·exact h1 x (List.mem_of_mem_take hx)
   ·exact h1 x (List.mem_of_mem_drop hx)) (by rw [ep];omega),ep,Int.one_mul]
 have H1:1≤H:=by omega
 have s1:1≤st:=by omega
 have hp:1≤H*st:=Nat.mul_pos H1 s1
 exact ⟨H,D,st,hj,h,H1,D1,s1,eH,eD,eS,eN,le,leM,by omega,eM⟩
theorem sg_plus (F K:Nat→Int):∀ n,sg (fun k=>F k+K k) n=sg F n+sg K n
 | 0=>rfl
 | n+1=>by simp only [sg];rw [sg_plus F K n];omega
theorem sg_swap (F:Nat→Nat→Int) (m:Nat):∀ n,sg (fun x=>sg (fun y=>F x y) m) n=sg (fun y=>sg (fun x=>F x y) n) m
 | 0=>(sg_zero _ m (fun k hk=>rfl)).symm
 | n+1=>by
  show sg (fun x=>sg (fun y=>F x y) m) n+sg (fun y=>F n y) m=_
  rw [sg_swap F m n,← sg_plus]
  rfl
theorem by_y (T:Nat→Nat→Int) (l s m y:Nat) (hs:1≤s) :
  sg (fun j=>if j*s+y=l then T j y else 0) m=if y≤l∧(l-y)%s=0∧(l-y)/s<m then T ((l-y)/s) y else 0:=by
 by_cases h:y≤l∧(l-y)%s=0∧(l-y)/s<m
 ·obtain ⟨h1,h2,h3⟩:=h
  have e:(l-y)/s*s=l-y:=by have:=Nat.div_add_mod (l-y) s;rw [h2,Nat.add_zero,Nat.mul_comm] at this;exact this
  rw [if_pos ⟨h1,h2,h3⟩,sg_one _ ((l-y)/s) m h3 (fun j hj hne=>if_neg (fun c=>hne (by
   have:j*s=l-y:=by omega
   rw [← this,Nat.mul_div_cancel _ hs])))]
  rw [iPo]
 ·rw [if_neg h,sg_zero _ _ (fun j hj=>if_neg (fun c=>h ⟨by omega,by
   have:l-y=j*s:=by omega
   rw [this,Nat.mul_mod_left],by
   have:l-y=j*s:=by omega
   rw [this,Nat.mul_div_cancel _ hs];exact hj⟩))]
theorem by_j (T:Nat→Nat→Int) (l s w j:Nat) :
  sg (fun y=>if j*s+y=l then T j y else 0) w=if j*s≤l∧l-j*s<w then T j (l-j*s) else 0:=by
 by_cases h:j*s≤l∧l-j*s<w
 ·rw [if_pos h,sg_one _ (l-j*s) w h.2 (fun y hy hne=>if_neg (fun c=>hne (by omega))),iPo]
 ·rw [if_neg h,sg_zero _ _ (fun y hy=>if_neg (fun c=>h ⟨by omega,by omega⟩))]
theorem in_eq (T:Nat→Nat→Nat→Int) (l s m w o:Nat) (hs:1≤s) :
  sg (fun i=>sg (fun y=>if y≤l∧(l-y)%s=0∧(l-y)/s<m then T i ((l-y)/s) y else 0) w) o
   = sg (fun j=>if j*s≤l∧l-j*s<w then sg (fun i=>T i j (l-j*s)) o else 0) m:=by
 have e1:∀ i,sg (fun y=>if y≤l∧(l-y)%s=0∧(l-y)/s<m then T i ((l-y)/s) y else 0) w=sg (fun j=>if j*s≤l∧l-j*s<w then T i j (l-j*s) else 0) m:=fun i=>by
  have a1:sg (fun y=>if y≤l∧(l-y)%s=0∧(l-y)/s<m then T i ((l-y)/s) y else 0) w=sg (fun y=>sg (fun j=>if j*s+y=l then T i j y else 0) m) w:=
   L6 w (fun y hy=>(by_y (T i) l s m y hs).symm)
  have a2:sg (fun j=>if j*s≤l∧l-j*s<w then T i j (l-j*s) else 0) m=sg (fun j=>sg (fun y=>if j*s+y=l then T i j y else 0) w) m:=
   L6 m (fun j hj=>(by_j (T i) l s w j).symm)
  rw [a1,a2]
  exact sg_swap (fun y j=>if j*s+y=l then T i j y else 0) m w
 rw [L6 o (fun i hi=>e1 i),sg_swap]
 refine L6 m (fun j hj=>?_)
 by_cases h:j*s≤l∧l-j*s<w
 ·rw [if_pos h];exact L6 o (fun i hi=>if_pos h)
 ·rw [if_neg h];exact sg_zero _ _ (fun i hi=>if_neg h)
def Bd (S:Int):Prop:=-1000000000000000000000000000000000000000000≤S∧S≤1000000000000000000000000000000000000000000
theorem progif {B:(Int×Int×Int×Int→Option (Int×Int×Int))→Int×Int×Int×Int→Option (Int×Int×Int)} (S0:Int) (F:Nat→Int) (n:Nat) (hn:n≤100000)
  (hb:∀ k,k≤n→Bd (S0+sg F k)) (hs:∀ k,k<n→∀ S,Bd S→∀ go,B go ((k:Int),acc S)=go (((k+1:Nat):Int),acc (S+F k)))
  (he:∀ z go,B go ((n:Int),z)=some z):Fp B Fq ((0:Int),acc S0)=some (acc (S0+sg F n)):=by
 have h:=Fx (B:=B) (fun k=>((k:Int),acc (S0+sg F k))) n (acc (S0+sg F n)) ?_ ?_ (by omega)
 ·simp only [sg] at h
  rw [Int.add_zero] at h
  exact h
 ·intro k hk go
  rw [hs k hk _ (hb k (by omega)),Int.add_assoc]
  rfl
 ·intro go;exact he _ go
theorem refif {B:(Int×Bool×Int×Int×Int×Int→Option (Bool×Int×Int×Int×Int))→Int×Bool×Int×Int×Int×Int→Option (Bool×Int×Int×Int×Int)} (S0:Int) (F:Nat→Int) (n:Nat) (hn:n≤100000)
  (hs:∀ k,k<n→∀ z,Nm (S0+sg F k) z→∃ y,(∀ go,B go ((k:Int),z)=go (((k+1:Nat):Int),y))∧Nm (S0+sg F (k+1)) y)
  (he:∀ z go,B go ((n:Int),z)=some z) (x:Bool×Int×Int×Int×Int) (hx:Nm S0 x):∃ z,Fp B Fq ((0:Int),x)=some z∧Nm (S0+sg F n) z:=by
 refine Le (B:=B) (fun k y=>y.1=(k:Int)∧Nm (S0+sg F k) y.2) (fun z=>Nm (S0+sg F n) z) n ((0:Int),x) ⟨rfl,by simp only [sg];rw [Int.add_zero];exact hx⟩ ?_ ?_ (by omega)
 ·rintro k hk ⟨_,y⟩ ⟨rfl,hy⟩
  obtain ⟨u,e1,e2⟩:=hs k hk y hy
  exact ⟨(((k+1:Nat):Int),u),e1,rfl,e2⟩
 ·rintro ⟨_,y⟩ ⟨rfl,hy⟩
  exact ⟨y,fun go=>he y go,hy⟩
theorem sg_bd2 (F:Nat→Int) (P:Int):∀ n,(∀ k,k<n→-P≤F k∧F k≤P)→-(n*P)≤sg F n∧sg F n≤n*P
 | 0,_=>by simp [sg]
 | n+1,h=>by
  have:=sg_bd2 F P n (fun k hk=>h k (by omega))
  have h2:=h n (by omega)
  have e:((n+1:Nat):Int)*P=(n:Int)*P+P:=by rw [Int.natCast_add,Int.add_mul];simp
  rw [e]
  simp only [sg]
  constructor <;> omega
def inT (G K:List Int) (c w m x i j y:Nat):Int:=rd (0:Int) G ((i*m+j:Nat):Int)*rd (0:Int) K (((i*c+x)*w+y:Nat):Int)
def inF (G K:List Int) (c w m s x l i y:Nat):Int:=if y≤l∧(l-y)%s=0∧(l-y)/s<m then inT G K c w m x i ((l-y)/s) y else 0
section
variable (G K:List Int) (o c w m s x l:Nat) (c1:1≤c) (w1:1≤w) (hG:G.length=o*m) (hK:K.length=o*(c*w)) (bG:o*m≤4096) (bK:o*(c*w)≤4096) (s1:1≤s) (s64:s≤64) (iG:inI G) (iK:inI K) (hx:x<c) (hl:l<4096)
include c1 w1 hG hK bG bK s1 s64 iG iK hx hl
theorem in_g {i j:Nat} (hi:i<o) (hj:j<m):i*m+j<G.length:=by rw [hG];exact Jm hi hj
theorem in_k {i y:Nat} (hi:i<o) (hy:y<w):(i*c+x)*w+y<K.length:=by
 have e:(i*c+x)*w+y=i*(c*w)+(x*w+y):=by rw [Nat.add_mul,Nat.mul_assoc];omega
 rw [e,hK];exact Jm hi (Jm hx hy)
theorem in_pb {i y:Nat} (hi:i<o) (hy:y<w):Pb (inF G K c w m s x l i y):=by
 unfold inF
 by_cases h:y≤l∧(l-y)%s=0∧(l-y)/s<m
 ·rw [if_pos h]
  exact pb_mul (rdIn iG (in_g G K o c w m s x l c1 w1 hG hK bG bK s1 s64 iG iK hx hl hi h.2.2)) (rdIn iK (in_k G K o c w m s x l c1 w1 hG hK bG bK s1 s64 iG iK hx hl hi hy))
 ·rw [if_neg h];unfold Pb;omega
theorem in_ow:o*w≤4096:=Nat.le_trans (Nat.mul_le_mul_left _ (Nat.le_mul_of_pos_left _ c1)) bK
theorem in_bd (i k:Nat) (hi:i<o) (hk:k≤w):Bd (sg (fun i=>sg (inF G K c w m s x l i) w) i+sg (inF G K c w m s x l i) k):=by
 have h1:=sg_bd2 (fun i=>sg (inF G K c w m s x l i) w) (w*85070591730234615865843651857942052864) i (fun a ha=>sg_bd _ w (fun y hy=>in_pb G K o c w m s x l c1 w1 hG hK bG bK s1 s64 iG iK hx hl (by omega) hy))
 have h2:=sg_bd (inF G K c w m s x l i) k (fun y hy=>in_pb G K o c w m s x l c1 w1 hG hK bG bK s1 s64 iG iK hx hl hi (by omega))
 have h3:=in_ow G K o c w m s x l c1 w1 hG hK bG bK s1 s64 iG iK hx hl
 have h4:(i+1)*w≤o*w:=Nat.mul_le_mul_right _ hi
 rw [Nat.add_mul,Nat.one_mul] at h4
 rw [← Int.mul_assoc,← Int.natCast_mul] at h1
 generalize i*w=iw at *
 unfold Bd
 constructor <;> omega
theorem in_innerP (L:Int) (q:Int) (eL:Int.tmod q L=(l:Int)) (eX:IntKind.i64.wrap (Int.tdiv q L)=(x:Int)) (i:Nat) (hi:i<o) (S0:Int) (hS:S0=sg (fun i=>sg (inF G K c w m s x l i) w) i) :
  Fp (fun go (z:Int×Int×Int×Int)=>f168_l44 ([(o:Int),(m:Int)],G) ([(o:Int),(c:Int),(w:Int)],K) s L q (i:Int) go z.1 z.2.1 z.2.2.1 z.2.2.2) Fq ((0:Int),acc S0)=some (acc (S0+sg (inF G K c w m s x l i) w)):=by
 have h3:=in_ow G K o c w m s x l c1 w1 hG hK bG bK s1 s64 iG iK hx hl
 have hw4:w≤4096:=Nat.le_trans (Nat.le_mul_of_pos_left _ (show 1≤o by omega)) h3
 have e1:IntKind.i64.wrap ((l:Int)+1)=((l+1:Nat):Int):=Gh l (by omega)
 obtain ⟨n,hn⟩:∃ n:Nat,n=if l+1<w then l+1 else w:=⟨_,rfl⟩
 have eM:(if ((l+1:Nat):Int)<(w:Int) then ((l+1:Nat):Int) else (w:Int))=(n:Int):=by
  rw [hn];by_cases h:l+1<w
  ·rw [if_pos h,iPo]
  ·rw [if_neg h,iNo]
 have nw:n≤w:=by rw [hn];split <;> omega
 have nl:n≤l+1:=by rw [hn];split <;> omega
 have eS:sg (inF G K c w m s x l i) w=sg (inF G K c w m s x l i) n:=by
  obtain ⟨r,hr⟩:∃ r,w=n+r:=⟨w-n,by omega⟩
  have e2:=sg_add (inF G K c w m s x l i) n r
  rw [sg_zero (fun y=>inF G K c w m s x l i (n+y)) r (fun y hy=>by
   unfold inF
   refine if_neg (fun h=>?_)
   have h1:=h.1
   have:l+1<w→n=l+1:=fun hh=>by rw [hn,if_pos hh]
   have:¬l+1<w→n=w:=fun hh=>by rw [hn,if_neg hh]
   omega),Int.add_zero] at e2
  rw [← hr] at e2
  exact e2
 rw [eS]
 refine progif (B:=fun go (z:Int×Int×Int×Int)=>f168_l44 ([(o:Int),(m:Int)],G) ([(o:Int),(c:Int),(w:Int)],K) s L q (i:Int) go z.1 z.2.1 z.2.2.1 z.2.2.2) S0 (inF G K c w m s x l i) n (by omega)
  (fun k hk=>by rw [hS];exact in_bd G K o c w m s x l c1 w1 hG hK bG bK s1 s64 iG iK hx hl i k hi (by omega)) ?_ ?_
 ·intro y hy S hSb go
  have hyl:y≤l:=by omega
  have hyw:y<w:=by omega
  have ed:IntKind.i64.wrap ((l:Int)-(y:Int))=((l-y:Nat):Int):=by rw [show (l:Int)-(y:Int)=((l-y:Nat):Int) by omega,wnat (by omega)]
  have em:Int.tmod ((l-y:Nat):Int) (s:Int)=(((l-y)%s:Nat):Int):=by rw [Int.tmod_eq_emod_of_nonneg (Int.natCast_nonneg _),← Int.natCast_emod]
  have eq:IntKind.i64.wrap (Int.tdiv ((l-y:Nat):Int) (s:Int))=(((l-y)/s:Nat):Int):=by
   have:(l-y)/s≤l-y:=Nat.div_le_self _ _
   rw [Int.tdiv_eq_ediv_of_nonneg (Int.natCast_nonneg _),← Int.natCast_ediv,wnat (by omega)]
  have hj:f168_j45 ([(o:Int),(m:Int)],G) s L q (y:Int)=some (decide ((l-y)%s=0∧(l-y)/s<m)):=by
   unfold f168_j45
   rw [eL,ed,em,eq,Bh]
   by_cases h1:(l-y)%s=0
   ·rw [bT (show (((l-y)%s:Nat):Int)=0 by omega),cond_true]
    show some (decide ((((l-y)/s:Nat):Int)<(m:Int)))=_
    congr 1
    rw [decide_eq_decide]
    constructor
    ·intro h;exact ⟨h1,by omega⟩
    ·intro h;have:=h.2;omega
   ·rw [bF (show ¬(((l-y)%s:Nat):Int)=0 by omega),cond_false,dF (fun h=>h1 h.1)]
  have e5:inF G K c w m s x l i y=if y≤l∧(l-y)%s=0∧(l-y)/s<m then inT G K c w m x i ((l-y)/s) y else 0:=rfl
  generalize (l-y)/s=jj at *
  unfold f168_l44
  simp only
  rw [eL,e1,show rd (0:Int) [(o:Int),(c:Int),(w:Int)] 2=(w:Int) from rfl,eM,dT,cond_true,Bh,hj,A9]
  by_cases h:(l-y)%s=0∧jj<m
  ·have hg:=in_g G K o c w m s x l c1 w1 hG hK bG bK s1 s64 iG iK hx hl hi h.2
   have hk:=in_k G K o c w m s x l c1 w1 hG hK bG bK s1 s64 iG iK hx hl hi hyw
   rw [dT h,cond_true,show rd (0:Int) [(o:Int),(m:Int)] 1=(m:Int) from rfl,show rd (0:Int) [(o:Int),(c:Int),(w:Int)] 1=(c:Int) from rfl,ed,eq,eX,ixM i m jj (by omega),ixK i c x w y w1 (by omega),Bh,Bh,
    acc_plus S _ _ hSb (rdIn iG hg) (rdIn iK hk),A9,Gh y]
   rw [e5,if_pos ⟨hyl,h⟩];rfl
  ·rw [dF h,cond_false,Gh y]
   rw [e5,if_neg (fun hh=>h hh.2),Int.add_zero]
 ·intro z go
  unfold f168_l44
  simp only
  rw [eL,e1,show rd (0:Int) [(o:Int),(c:Int),(w:Int)] 2=(w:Int) from rfl,eM,dF,cond_false]
end
def kerF (G A:List Int) (m L s i x y t:Nat):Int:=rd (0:Int) G ((i*m+t:Nat):Int)*rd (0:Int) A ((x*L+t*s+y:Nat):Int)
def kerV (G A:List Int) (c L w s q:Nat):Int:=sat (rhe (sg (kerF G A (F7 L w s) L s (q/(c*w)) (q/w%c) (q%w)) (F7 L w s)))
section
variable (G A:List Int) (o c L w s:Nat) (o1:1≤o) (c1:1≤c) (w1:1≤w) (hG:G.length=o*F7 L w s) (hA:A.length=c*L) (bG:o*F7 L w s≤4096) (bA:c*L≤4096) (hw:w≤L) (s1:1≤s) (s64:s≤64) (iG:inI G) (iA:inI A)
include o1 c1 w1 hG hA bG bA hw s1 s64 iG iA
theorem ker_g {i t:Nat} (hi:i<o) (ht:t<F7 L w s):i*F7 L w s+t<G.length:=by rw [hG];exact Jm hi ht
theorem ker_a {x y t:Nat} (hx:x<c) (hy:y<w) (ht:t<F7 L w s):x*L+t*s+y<A.length:=by
 have h1:=step_in hw ht hy s1
 have h2:=Jm (c:=c) hx h1
 rw [hA];omega
theorem ker_m:F7 L w s≤4096:=Nat.le_trans (Nat.le_mul_of_pos_left _ o1) bG
theorem ker_p {i x y:Nat} (hi:i<o) (hx:x<c) (hy:y<w) (t:Nat) (ht:t<F7 L w s):Pb (kerF G A (F7 L w s) L s i x y t):=
 pb_mul (rdIn iG (ker_g G A o c L w s o1 c1 w1 hG hA bG bA hw s1 s64 iG iA hi ht)) (rdIn iA (ker_a G A o c L w s o1 c1 w1 hG hA bG bA hw s1 s64 iG iA hx hy ht))
theorem ker_parts {q:Nat} (hq:q<o*(c*w)):q/(c*w)<o∧q/w%c<c∧q%w<w:=by
 have h0:0<c*w:=Nat.mul_pos c1 w1
 exact ⟨Nat.div_lt_of_lt_mul (by rw [Nat.mul_comm];exact hq),Nat.mod_lt _ c1,Nat.mod_lt _ w1⟩
theorem ker_sumP (q:Nat) (hq:q<o*(c*w)) (bq:o*(c*w)≤4096) :
  Fp (fun go (x:Int×Int×Int×Int)=>f171_l9 ([(o:Int),(F7 L w s:Int)],G) ([(c:Int),(L:Int)],A) s w (q:Int) go x.1 x.2.1 x.2.2.1 x.2.2.2) Fq ((0:Int),(0:Int),(0:Int),(0:Int))
   = some (acc (sg (kerF G A (F7 L w s) L s (q/(c*w)) (q/w%c) (q%w)) (F7 L w s))):=by
 obtain ⟨hi,hx,hy⟩:=ker_parts G A o c L w s o1 c1 w1 hG hA bG bA hw s1 s64 iG iA hq
 have hm:=ker_m G A o c L w s o1 c1 w1 hG hA bG bA hw s1 s64 iG iA
 have hcw:c*w≤4096:=Nat.le_trans (Nat.le_mul_of_pos_left _ o1) bq
 have eW:IntKind.i64.wrap ((c:Int)*(w:Int))=((c*w:Nat):Int):=wmul c w (by omega)
 have eI:IntKind.i64.wrap (Int.tdiv (q:Int) ((c*w:Nat):Int))=((q/(c*w):Nat):Int):=by
  have:q/(c*w)≤q:=Nat.div_le_self _ _
  rw [Int.tdiv_eq_ediv_of_nonneg (by omega),← Int.natCast_ediv,wnat (by omega)]
 have eX:Int.tmod (IntKind.i64.wrap (Int.tdiv (q:Int) (w:Int))) (c:Int)=((q/w%c:Nat):Int):=by
  have:q/w≤q:=Nat.div_le_self _ _
  rw [Int.tdiv_eq_ediv_of_nonneg (by omega),← Int.natCast_ediv,wnat (by omega),Int.tmod_eq_emod_of_nonneg (Int.natCast_nonneg _),← Int.natCast_emod]
 have eY:Int.tmod (q:Int) (w:Int)=((q%w:Nat):Int):=by
  rw [Int.tmod_eq_emod_of_nonneg (by omega),← Int.natCast_emod]
 generalize q/(c*w)=i at *
 generalize q/w%c=x at *
 generalize q%w=y at *
 have h:=progdot (B:=fun go (z:Int×Int×Int×Int)=>f171_l9 ([(o:Int),(F7 L w s:Int)],G) ([(c:Int),(L:Int)],A) s w (q:Int) go z.1 z.2.1 z.2.2.1 z.2.2.2)
  (kerF G A (F7 L w s) L s i x y) 0 (F7 L w s) (fun t=>rd (0:Int) G ((i*F7 L w s+t:Nat):Int)) (fun t=>rd (0:Int) A ((x*L+t*s+y:Nat):Int)) (by omega) (fun t ht=>by rw [Nat.zero_add];rfl)
  (fun t ht=>rdIn iG (ker_g G A o c L w s o1 c1 w1 hG hA bG bA hw s1 s64 iG iA hi ht)) (fun t ht=>rdIn iA (ker_a G A o c L w s o1 c1 w1 hG hA bG bA hw s1 s64 iG iA hx hy ht))
  (fun t ht=>ker_p G A o c L w s o1 c1 w1 hG hA bG bA hw s1 s64 iG iA hi hx hy t (by omega)) ?_ ?_
 ·rw [Nat.zero_add] at h
  have e0:acc (sg (kerF G A (F7 L w s) L s i x y) 0)=((0:Int),(0:Int),(0:Int)):=acc_zero
  rw [e0] at h
  exact h
 ·intro t ht z go
  have hg:=ker_g G A o c L w s o1 c1 w1 hG hA bG bA hw s1 s64 iG iA hi ht
  have ha:=ker_a G A o c L w s o1 c1 w1 hG hA bG bA hw s1 s64 iG iA hx hy ht
  unfold f171_l9
  simp only
  rw [show rd (0:Int) [(o:Int),(F7 L w s:Int)] 1=(F7 L w s:Int) from rfl,show rd (0:Int) [(c:Int),(L:Int)] 0=(c:Int) from rfl,show rd (0:Int) [(c:Int),(L:Int)] 1=(L:Int) from rfl,dT,cond_true,eW,eI,eX,eY,
   ixM i (F7 L w s) t (by omega),ixA x L t s y (by omega),Bh,Bh,Gh t]
 ·intro z go
  unfold f171_l9
  simp only
  rw [show rd (0:Int) [(o:Int),(F7 L w s:Int)] 1=(F7 L w s:Int) from rfl,dF,cond_false]
theorem ker_sumR (i x y:Nat) (hi:i<o) (hx:x<c) (hy:y<w) :
  ∃ z,Fp (fun go (z:Int×Bool×Int×Int×Int×Int)=>f133_l46 ([(o:Int),(F7 L w s:Int)],G) ([(c:Int),(L:Int)],A) s (i:Int) (x:Int) (y:Int) go z.1 z.2.1 z.2.2.1 z.2.2.2.1 z.2.2.2.2.1 z.2.2.2.2.2) Fq ((0:Int),false,(0:Int),(0:Int),(0:Int),(0:Int))=some z∧
   Nm (sg (kerF G A (F7 L w s) L s i x y) (F7 L w s)) z:=by
 have hm:=ker_m G A o c L w s o1 c1 w1 hG hA bG bA hw s1 s64 iG iA
 have h:=refdot (B:=fun go (z:Int×Bool×Int×Int×Int×Int)=>f133_l46 ([(o:Int),(F7 L w s:Int)],G) ([(c:Int),(L:Int)],A) s (i:Int) (x:Int) (y:Int) go z.1 z.2.1 z.2.2.1 z.2.2.2.1 z.2.2.2.2.1 z.2.2.2.2.2)
  (kerF G A (F7 L w s) L s i x y) 0 (F7 L w s) (fun t=>rd (0:Int) G ((i*F7 L w s+t:Nat):Int)) (fun t=>rd (0:Int) A ((x*L+t*s+y:Nat):Int)) (by omega) (fun t ht=>by rw [Nat.zero_add];rfl)
  (fun t ht=>rdIn iG (ker_g G A o c L w s o1 c1 w1 hG hA bG bA hw s1 s64 iG iA hi ht)) (fun t ht=>rdIn iA (ker_a G A o c L w s o1 c1 w1 hG hA bG bA hw s1 s64 iG iA hx hy ht))
  (fun t ht=>ker_p G A o c L w s o1 c1 w1 hG hA bG bA hw s1 s64 iG iA hi hx hy t (by omega)) (by
   intro t ht z go
   have hg:=ker_g G A o c L w s o1 c1 w1 hG hA bG bA hw s1 s64 iG iA hi ht
   have ha:=ker_a G A o c L w s o1 c1 w1 hG hA bG bA hw s1 s64 iG iA hx hy ht
   unfold f133_l46
   simp only
   rw [show rd (0:Int) [(o:Int),(F7 L w s:Int)] 1=(F7 L w s:Int) from rfl,show rd (0:Int) [(c:Int),(L:Int)] 1=(L:Int) from rfl,dT,cond_true,
    ixM i (F7 L w s) t (by omega),ixA x L t s y (by omega),Bh,Bh,Gh t]) (by
   intro z go
   unfold f133_l46
   simp only
   rw [show rd (0:Int) [(o:Int),(F7 L w s:Int)] 1=(F7 L w s:Int) from rfl,dF,cond_false]) (false,0,0,0,0) nm_zero
 rw [Nat.zero_add] at h
 exact h
end
theorem three_div {i x y c w:Nat} (hx:x<c) (hy:y<w):((i*c+x)*w+y)/(c*w)=i∧((i*c+x)*w+y)/w%c=x∧((i*c+x)*w+y)%w=y:=by
 obtain ⟨d1,d2⟩:=K5 (x:=i*c+x) hy
 obtain ⟨d3,d4⟩:=K5 (x:=i) hx
 have e:(i*c+x)*w+y=i*(c*w)+(x*w+y):=by rw [Nat.add_mul,Nat.mul_assoc];omega
 refine ⟨?_,by rw [d1,d4],d2⟩
 rw [e]
 exact (K5 (x:=i) (Jm hx hy)).1
section
variable (G A:List Int) (o c L w s:Nat) (o1:1≤o) (c1:1≤c) (w1:1≤w) (hG:G.length=o*F7 L w s) (hA:A.length=c*L) (bG:o*F7 L w s≤4096) (bA:c*L≤4096) (hw:w≤L) (s1:1≤s) (s64:s≤64) (iG:inI G) (iA:inI A) (bq:o*(c*w)≤4096)
include o1 c1 w1 hG hA bG bA hw s1 s64 iG iA bq
theorem ker_loopP (r:List Int) :
  Fp (fun go (x:Int×List Int)=>f171_l8 ([(o:Int),(F7 L w s:Int)],G) ([(c:Int),(L:Int)],A) s w (0,r,List.replicate (o*(c*w)) 0) go x.1 x.2) Fq ((0:Int),List.replicate (o*(c*w)) 0)=some (Ga (o*(c*w)) (kerV G A c L w s)):=by
 have hm:=ker_m G A o c L w s o1 c1 w1 hG hA bG bA hw s1 s64 iG iA
 have hcw:c*w≤4096:=Nat.le_trans (Nat.le_mul_of_pos_left _ o1) bq
 have hcw0:1≤c*w:=Nat.mul_pos c1 w1
 rw [Gk _ (kerV G A c L w s)]
 have h:=Fx (B:=fun go (x:Int×List Int)=>f171_l8 ([(o:Int),(F7 L w s:Int)],G) ([(c:Int),(L:Int)],A) s w (0,r,Kk (o*(c*w)) 0 (kerV G A c L w s)) go x.1 x.2) (fun q=>((q:Int),Kk (o*(c*w)) q (kerV G A c L w s))) (o*(c*w)) (Ga (o*(c*w)) (kerV G A c L w s)) ?_ ?_ (by omega)
 ·exact h
 ·intro q hq go
  obtain ⟨hi,hx,hy⟩:=ker_parts G A o c L w s o1 c1 w1 hG hA bG bA hw s1 s64 iG iA hq
  obtain ⟨z,ez⟩:=acc_fix (sg (kerF G A (F7 L w s) L s (q/(c*w)) (q/w%c) (q%w)) (F7 L w s)) (sg_sm _ _ hm (fun t ht=>ker_p G A o c L w s o1 c1 w1 hG hA bG bA hw s1 s64 iG iA hi hx hy t ht))
  unfold f171_l8
  simp only [F9]
  rw [show rd (0:Int) [(c:Int),(L:Int)] 0=(c:Int) from rfl,wmul c w (by omega),dT,cond_true,Bh,Bh,Bh,Bh,
   ker_sumP G A o c L w s o1 c1 w1 hG hA bG bA hw s1 s64 iG iA q hq bq,A9,ez,A9,Bh,Gh q,Int.toNat_natCast]
  have:=Gu (o*(c*w)) q (kerV G A c L w s) _ hq (rfl:sat (rhe (sg (kerF G A (F7 L w s) L s (q/(c*w)) (q/w%c) (q%w)) (F7 L w s)))=kerV G A c L w s q)
  simp only
  rw [this]
 ·intro go
  unfold f171_l8
  simp only [F9]
  rw [dF,cond_false,Gl]
theorem ker_loopR :
  Fp (fun go (x:Int×List Int)=>f133_l33 ([(o:Int),(F7 L w s:Int)],G) ([(c:Int),(L:Int)],A) s w go x.1 x.2) Fq ((0:Int),List.replicate (o*(c*w)) 0)=some (Ga (o*(c*w)) (kerV G A c L w s)):=by
 have hm:=ker_m G A o c L w s o1 c1 w1 hG hA bG bA hw s1 s64 iG iA
 have hcw:c*w≤4096:=Nat.le_trans (Nat.le_mul_of_pos_left _ o1) bq
 have hc:c≤c*w:=Nat.le_mul_of_pos_right _ w1
 have hw2:w≤c*w:=Nat.le_mul_of_pos_left _ c1
 have ho:o≤o*(c*w):=Nat.le_mul_of_pos_right _ (Nat.mul_pos c1 w1)
 rw [Gk _ (kerV G A c L w s)]
 have h:=Fx (B:=fun go (x:Int×List Int)=>f133_l33 ([(o:Int),(F7 L w s:Int)],G) ([(c:Int),(L:Int)],A) s w go x.1 x.2) (fun i=>((i:Int),Kk (o*(c*w)) (i*c*w) (kerV G A c L w s))) o (Ga (o*(c*w)) (kerV G A c L w s)) ?_ ?_ (by omega)
 ·rw [Nat.zero_mul,Nat.zero_mul] at h;exact h
 ·intro i hi go
  unfold f133_l33
  simp only
  have mid:=Fx (B:=fun go (x:Int×List Int)=>f133_l42 ([(o:Int),(F7 L w s:Int)],G) ([(c:Int),(L:Int)],A) s w (i:Int) go x.1 x.2) (fun x=>((x:Int),Kk (o*(c*w)) ((i*c+x)*w) (kerV G A c L w s))) c (Kk (o*(c*w)) ((i+1)*c*w) (kerV G A c L w s)) ?_ ?_ (by omega)
  ·rw [Nat.add_zero] at mid
   have mid':Fp (fun go (x:Int×List Int)=>f133_l42 ([(o:Int),(F7 L w s:Int)],G) ([(c:Int),(L:Int)],A) s w (i:Int) go x.1 x.2) Fq ((0:Int),Kk (o*(c*w)) (i*c*w) (kerV G A c L w s))=_:=mid
   rw [show rd (0:Int) [(o:Int),(F7 L w s:Int)] 0=(o:Int) from rfl,dT,cond_true,mid',A9,Gh i]
  ·intro x hx go
   unfold f133_l42
   simp only
   have K2:=Fx (B:=fun go (z:Int×List Int)=>f133_l45 ([(o:Int),(F7 L w s:Int)],G) ([(c:Int),(L:Int)],A) s w (i:Int) (x:Int) go z.1 z.2) (fun y=>((y:Int),Kk (o*(c*w)) ((i*c+x)*w+y) (kerV G A c L w s))) w (Kk (o*(c*w)) ((i*c+(x+1))*w) (kerV G A c L w s)) ?_ ?_ (by omega)
   ·rw [Nat.add_zero] at K2
    have inner':Fp (fun go (z:Int×List Int)=>f133_l45 ([(o:Int),(F7 L w s:Int)],G) ([(c:Int),(L:Int)],A) s w (i:Int) (x:Int) go z.1 z.2) Fq ((0:Int),Kk (o*(c*w)) ((i*c+x)*w) (kerV G A c L w s))=_:=K2
    rw [show rd (0:Int) [(c:Int),(L:Int)] 0=(c:Int) from rfl,dT,cond_true,inner',A9,Gh x]
   ·intro y hy go
    obtain ⟨d1,d2,d3⟩:=three_div (i:=i) hx hy
    have e:(i*c+x)*w+y=i*(c*w)+(x*w+y):=by rw [Nat.add_mul,Nat.mul_assoc];omega
    have hq:(i*c+x)*w+y<o*(c*w):=by rw [e];exact Jm hi (Jm hx hy)
    obtain ⟨z,ez,hz⟩:=ker_sumR G A o c L w s o1 c1 w1 hG hA bG bA hw s1 s64 iG iA i x y hi hx hy
    obtain ⟨u,eu,hu⟩:=ref_end hz (sg_sm _ _ hm (fun t ht=>ker_p G A o c L w s o1 c1 w1 hG hA bG bA hw s1 s64 iG iA hi hx hy t ht))
    unfold f133_l45
    simp only [F9]
    rw [show rd (0:Int) [(c:Int),(L:Int)] 0=(c:Int) from rfl,dT,cond_true,ez,A9,eu,A9,hu,A9,ixK i c x w y w1 (by omega),Bh,Int.toNat_natCast,Gh y]
    have:=Gu (o*(c*w)) ((i*c+x)*w+y) (kerV G A c L w s) (sat (rhe (sg (kerF G A (F7 L w s) L s i x y) (F7 L w s)))) hq (by unfold kerV;rw [d1,d2,d3])
    rw [this]
    rfl
   ·intro go
    unfold f133_l45
    simp only
    rw [dF,cond_false]
    congr 2
    rw [← Nat.add_assoc,Nat.add_mul (i*c+x) 1 w,Nat.one_mul]
  ·intro go
   unfold f133_l42
   simp only
   rw [show rd (0:Int) [(c:Int),(L:Int)] 0=(c:Int) from rfl,dF,cond_false]
   congr 2
   rw [Nat.add_mul i 1 c,Nat.one_mul]
 ·intro go
  unfold f133_l33
  simp only
  rw [show rd (0:Int) [(o:Int),(F7 L w s:Int)] 0=(o:Int) from rfl,dF,cond_false,Nat.mul_assoc,Gl]
end
abbrev Gs (g a:Tn) (s w:Int):Prop:=Fu g=true∧Fu a=true∧1≤s∧s≤64∧1≤w∧w≤4096
abbrev Kb (g a:Tn) (s w:Int):Prop:=g.1.length=2∧a.1.length=2∧w≤rd (0:Int) a.1 1∧rd (0:Int) g.1 1=(F7 (rd (0:Int) a.1 1).toNat w.toNat s.toNat:Int)
def kerS (g a:Tn) (s w:Int):Int×Tn:=
 if Gs g a s w then
  if Kb g a s w then
   if 0<prd [rd (0:Int) g.1 0,rd (0:Int) a.1 0,w] then
    (0,[rd (0:Int) g.1 0,rd (0:Int) a.1 0,w],Ga ((rd (0:Int) g.1 0).toNat*((rd (0:Int) a.1 0).toNat*w.toNat)) (kerV g.2 a.2 (rd (0:Int) a.1 0).toNat (rd (0:Int) a.1 1).toNat w.toNat s.toNat))
   else (2,[],[])
  else (4,[],[])
 else (1,[],[])
theorem ker_j4 (g a:Tn) (s w:Int):f171_j4 g a s w=some (!(decide (Gs g a s w))):=by
 unfold f171_j4 f207 f208
 have e1:f113 (g.1,g.2)=some (Fu g):=F8 g
 have e2:f113 (a.1,a.2)=some (Fu a):=F8 a
 generalize hd:decide (Gs g a s w)=d
 rw [e1,A9]
 by_cases hg:Fu g=true
 ·rw [hg,Bool.not_true,cond_false,e2,A9]
  by_cases ha:Fu a=true
  ·rw [ha,Bool.not_true,cond_false]
   by_cases h1:s≥1
   ·rw [dT h1,cond_true,A9]
    by_cases h2:s≤64
    ·rw [dT h2,Bool.not_true,cond_false]
     by_cases h3:w≥1
     ·rw [dT h3,cond_true]
      by_cases h4:w≤4096
      ·rw [dT h4];rw [dT (show Gs g a s w from ⟨hg,ha,h1,h2,h3,h4⟩)] at hd;rw [← hd];rfl
      ·rw [dF h4];rw [dF (show ¬Gs g a s w from fun h=>h4 h.2.2.2.2.2)] at hd;rw [← hd];rfl
     ·rw [dF h3];rw [dF (show ¬Gs g a s w from fun h=>h3 h.2.2.2.2.1)] at hd;rw [← hd];rfl
    ·rw [dF h2];rw [dF (show ¬Gs g a s w from fun h=>h2 h.2.2.2.1)] at hd;rw [← hd];rfl
   ·rw [dF h1];rw [dF (show ¬Gs g a s w from fun h=>h1 h.2.2.1)] at hd;rw [← hd];rfl
  ·rw [show Fu a=false by simpa using ha];rw [dF (show ¬Gs g a s w from fun h=>ha h.2.1)] at hd;rw [← hd];rfl
 ·rw [show Fu g=false by simpa using hg];rw [dF (show ¬Gs g a s w from fun h=>hg h.1)] at hd;rw [← hd];rfl
theorem ker_j3 (g a:Tn) (s w:Int):f133_j3 g a s w=some (!(decide (Gs g a s w))):=by
 unfold f133_j3
 have e1:f118 (g.1,g.2)=some (Fu g):=isR g
 have e2:f118 (a.1,a.2)=some (Fu a):=isR a
 generalize hd:decide (Gs g a s w)=d
 rw [e1,A9]
 by_cases hg:Fu g=true
 ·rw [hg,Bool.not_true,cond_false,e2,A9]
  by_cases ha:Fu a=true
  ·rw [ha,Bool.not_true,cond_false]
   by_cases h1:s<1
   ·rw [dT h1];rw [dF (show ¬Gs g a s w from fun h=>by omega)] at hd;rw [← hd];rfl
   ·rw [dF h1,cond_false]
    by_cases h2:s>64
    ·rw [dT h2];rw [dF (show ¬Gs g a s w from fun h=>by omega)] at hd;rw [← hd];rfl
    ·rw [dF h2,cond_false]
     by_cases h3:w<1
     ·rw [dT h3];rw [dF (show ¬Gs g a s w from fun h=>by omega)] at hd;rw [← hd];rfl
     ·rw [dF h3,cond_false]
      by_cases h4:w>4096
      ·rw [dT h4];rw [dF (show ¬Gs g a s w from fun h=>by omega)] at hd;rw [← hd];rfl
      ·rw [dF h4];rw [dT (show Gs g a s w from ⟨hg,ha,by omega,by omega,by omega,by omega⟩)] at hd;rw [← hd];rfl
  ·rw [show Fu a=false by simpa using ha];rw [dF (show ¬Gs g a s w from fun h=>ha h.2.1)] at hd;rw [← hd];rfl
 ·rw [show Fu g=false by simpa using hg];rw [dF (show ¬Gs g a s w from fun h=>hg h.1)] at hd;rw [← hd];rfl
theorem ker_win (a:Tn) (s w:Int) (ha:Fu a=true) (h2:a.1.length=2) (s1:1≤s) (w1:1≤w) (h:w≤rd (0:Int) a.1 1) :
  IntKind.i64.wrap (IntKind.i64.wrap (Int.tdiv (IntKind.i64.wrap (rd (0:Int) a.1 1-w)) s)+1)=(F7 (rd (0:Int) a.1 1).toNat w.toNat s.toNat:Int)∧f209 (rd (0:Int) a.1 1) w s=some (F7 (rd (0:Int) a.1 1).toNat w.toNat s.toNat:Int):=by
 obtain ⟨c,L,ea,c1,L1,la,ba⟩:=Gx ha h2
 have hL:L≤4096:=Nat.le_trans (Nat.le_mul_of_pos_left _ c1) ba
 have e:rd (0:Int) a.1 1=(L:Int):=by rw [ea];rfl
 obtain ⟨w',rfl⟩:=Int.eq_ofNat_of_zero_le (show 0≤w by omega)
 obtain ⟨s',rfl⟩:=Int.eq_ofNat_of_zero_le (show 0≤s by omega)
 rw [e] at h ⊢
 exact ⟨win_eq L w' s' (by omega) (by omega),winP L w' s' (by omega) (by omega) (by omega)⟩
theorem ker_j5 (g a:Tn) (s w:Int) (h:Gs g a s w):f171_j5 g a s w=some (!(decide (Kb g a s w))):=by
 obtain ⟨hg,ha,s1,s64,w1,w4⟩:=h
 unfold f171_j5
 by_cases h1:g.1.length=2
 ·rw [nF,cond_false]
  by_cases h2:a.1.length=2
  ·rw [nF,cond_false,Bh,Bh]
   by_cases h3:w≤rd (0:Int) a.1 1
   ·rw [(ker_win a s w ha h2 s1 w1 h3).2,A9]
    by_cases h4:(F7 (rd (0:Int) a.1 1).toNat w.toNat s.toNat:Int)=rd (0:Int) g.1 1
    ·rw [nF h4,dT (show Kb g a s w from ⟨h1,h2,h3,h4.symm⟩)];rfl
    ·rw [nT h4,dF (show ¬Kb g a s w from fun h=>h4 h.2.2.2.symm)];rfl
   ·obtain ⟨c,L,eg,c1,L1,_,_⟩:=Gx hg h1
    have e:rd (0:Int) g.1 1=(L:Int):=by rw [eg];rfl
    rw [win_none _ _ _ (by omega),A9,nT,dF (show ¬Kb g a s w from fun h=>h3 h.2.2.1)];rfl
  ·rw [nT,dF (show ¬Kb g a s w from fun h=>h2 h.2.1)];rfl
 ·rw [nT,dF (show ¬Kb g a s w from fun h=>h1 h.1)];rfl
theorem ker_j6 (g a:Tn) (s w:Int) (h:Gs g a s w):f133_j6 g a s w=some (!(decide (Kb g a s w))):=by
 obtain ⟨hg,ha,s1,s64,w1,w4⟩:=h
 unfold f133_j6
 by_cases h1:g.1.length=2
 ·rw [nF,cond_false]
  by_cases h2:a.1.length=2
  ·rw [nF,cond_false,Bh]
   by_cases h3:w≤rd (0:Int) a.1 1
   ·rw [dF (show ¬w>rd (0:Int) a.1 1 by omega),cond_false,Bh,Bh,Bh,(ker_win a s w ha h2 s1 w1 h3).1]
    by_cases h4:rd (0:Int) g.1 1=(F7 (rd (0:Int) a.1 1).toNat w.toNat s.toNat:Int)
    ·rw [nF h4,dT (show Kb g a s w from ⟨h1,h2,h3,h4⟩)];rfl
    ·rw [nT h4,dF (show ¬Kb g a s w from fun h=>h4 h.2.2.2)];rfl
   ·rw [dT (show w>rd (0:Int) a.1 1 by omega),dF (show ¬Kb g a s w from fun h=>h3 h.2.2.1)];rfl
  ·rw [nT,dF (show ¬Kb g a s w from fun h=>h2 h.2.1)];rfl
 ·rw [nT,dF (show ¬Kb g a s w from fun h=>h1 h.1)];rfl
theorem kerP (g a:Tn) (s w:Int) (ig:inI g.2) (ia:inI a.2):f171 g a s w=some (kerS g a s w):=by
 unfold f171 f171_j3 kerS
 rw [ker_j4,A9]
 by_cases h:Gs g a s w
 ·rw [dT h,if_pos h,Bool.not_true,cond_false,ker_j5 g a s w h,A9]
  by_cases f:Kb g a s w
  ·rw [dT f,if_pos f,Bool.not_true,cond_false,A9,Fl]
   obtain ⟨gg,ga,t1,t64,w1,w4⟩:=h
   obtain ⟨f1,f2,f3,f4⟩:=f
   obtain ⟨o,m,eg,o1,m1,lg,bg⟩:=Gx gg f1
   obtain ⟨c,L,ea,c1,L1,la,ba⟩:=Gx ga f2
   obtain ⟨s,rfl⟩:=Int.eq_ofNat_of_zero_le (show 0≤s by omega)
   obtain ⟨w,rfl⟩:=Int.eq_ofNat_of_zero_le (show 0≤w by omega)
   generalize g.2=G at *
   generalize a.2=A at *
   subst eg ea
   have fw:(w:Int)≤(L:Int):=f3
   have fm:(m:Int)=(F7 L w s:Int):=f4
   have fm':m=F7 L w s:=by omega
   subst fm'
   rw [Bh (by simp),Bh (by simp),Bh (by simp),Bh (by simp),show rd (0:Int) [(o:Int),(F7 L w s:Int)] 0=(o:Int) from rfl,show rd (0:Int) [(c:Int),(L:Int)] 0=(c:Int) from rfl,of_ok,A9]
   show _=some (if 0<prd [(o:Int),(c:Int),(w:Int)] then (0,[(o:Int),(c:Int),(w:Int)],Ga (o*(c*w)) (kerV G A c L w s)) else (2,[],[]))
   by_cases n0:0<prd [(o:Int),(c:Int),(w:Int)]
   ·have hp:=(prod3 n0).2.2.2
    have hr:=F2 [(o:Int),(c:Int),(w:Int)]
    have eN:(prd [(o:Int),(c:Int),(w:Int)]).toNat=o*(c*w):=by rw [hp,← Int.natCast_mul,← Int.natCast_mul,Int.toNat_natCast]
    rw [if_pos n0,if_pos n0,eN,nF rfl,cond_false]
    simp only
    rw [ker_loopP G A o c L w s o1 c1 (by omega) lg la bg ba (by omega) (by omega) (by omega) ig ia (by omega),A9]
   ·rw [if_neg n0,if_neg n0,nT (by decide:¬(2:Int)=0)];rfl
  ·rw [dF f,if_neg f];rfl
 ·rw [dF h,if_neg h];rfl
theorem kerR (g a:Tn) (s w:Int) (ig:inI g.2) (ia:inI a.2):f133 g a s w=some (kerS g a s w):=by
 unfold f133 f133_j2 kerS
 rw [ker_j3,A9]
 by_cases h:Gs g a s w
 ·rw [dT h,if_pos h,Bool.not_true,cond_false,A9,Fl]
  unfold f133_j5
  rw [ker_j6 g a s w h,A9]
  by_cases f:Kb g a s w
  ·rw [dT f,if_pos f,Bool.not_true,cond_false,A9,Fl]
   obtain ⟨gg,ga,t1,t64,w1,w4⟩:=h
   obtain ⟨f1,f2,f3,f4⟩:=f
   obtain ⟨o,m,eg,o1,m1,lg,bg⟩:=Gx gg f1
   obtain ⟨c,L,ea,c1,L1,la,ba⟩:=Gx ga f2
   obtain ⟨s,rfl⟩:=Int.eq_ofNat_of_zero_le (show 0≤s by omega)
   obtain ⟨w,rfl⟩:=Int.eq_ofNat_of_zero_le (show 0≤w by omega)
   generalize g.2=G at *
   generalize a.2=A at *
   subst eg ea
   have fw:(w:Int)≤(L:Int):=f3
   have fm:(m:Int)=(F7 L w s:Int):=f4
   have fm':m=F7 L w s:=by omega
   subst fm'
   rw [Bh (by simp),Bh (by simp),Bh (by simp),Bh (by simp),show rd (0:Int) [(o:Int),(F7 L w s:Int)] 0=(o:Int) from rfl,show rd (0:Int) [(c:Int),(L:Int)] 0=(c:Int) from rfl,goodR,A9]
   show _=some (if 0<prd [(o:Int),(c:Int),(w:Int)] then (0,[(o:Int),(c:Int),(w:Int)],Ga (o*(c*w)) (kerV G A c L w s)) else (2,[],[]))
   by_cases n0:0<prd [(o:Int),(c:Int),(w:Int)]
   ·have hp:=(prod3 n0).2.2.2
    have hr:=F2 [(o:Int),(c:Int),(w:Int)]
    have eN:(prd [(o:Int),(c:Int),(w:Int)]).toNat=o*(c*w):=by rw [hp,← Int.natCast_mul,← Int.natCast_mul,Int.toNat_natCast]
    rw [dT (show prd [(o:Int),(c:Int),(w:Int)]>0 from n0),if_pos n0,Bool.not_true,cond_false,newR _ _ n0,A9,eN]
    simp only
    rw [ker_loopR G A o c L w s o1 c1 (by omega) lg la bg ba (by omega) (by omega) (by omega) ig ia (by omega),A9]
   ·rw [dF (show ¬prd [(o:Int),(c:Int),(w:Int)]>0 from n0),if_neg n0];rfl
  ·rw [dF f,if_neg f];rfl
 ·rw [dF h,if_neg h];rfl
section
variable (G K:List Int) (o c w m s L:Nat) (o1:1≤o) (c1:1≤c) (w1:1≤w) (hG:G.length=o*m) (hK:K.length=o*(c*w)) (bG:o*m≤4096) (bK:o*(c*w)≤4096) (s1:1≤s) (s64:s≤64) (iG:inI G) (iK:inI K) (L1:1≤L) (bL:c*L≤4096)
include o1 c1 w1 hG hK bG bK s1 s64 iG iK L1 bL
def inV (G K:List Int) (o c w m s L q:Nat):Int:=sat (rhe (sg (fun i=>sg (inF G K c w m s (q/L) (q%L) i) w) o))
theorem in_o4:o≤4096:=Nat.le_trans (Nat.le_mul_of_pos_right _ (Nat.mul_pos c1 w1)) bK
theorem in_outP (q:Nat) (hq:q<c*L) :
  Fp (fun go (z:Int×Int×Int×Int)=>f168_l41 ([(o:Int),(m:Int)],G) ([(o:Int),(c:Int),(w:Int)],K) s L (q:Int) go z.1 z.2.1 z.2.2.1 z.2.2.2) Fq ((0:Int),(0:Int),(0:Int),(0:Int))=some (acc (sg (fun i=>sg (inF G K c w m s (q/L) (q%L) i) w) o)):=by
 have hL4:L≤4096:=Nat.le_trans (Nat.le_mul_of_pos_left _ c1) bL
 have hl:q%L<4096:=Nat.lt_of_lt_of_le (Nat.mod_lt _ L1) hL4
 have hx:q/L<c:=Nat.div_lt_of_lt_mul (by rw [Nat.mul_comm];exact hq)
 have eL:Int.tmod (q:Int) (L:Int)=((q%L:Nat):Int):=by rw [Int.tmod_eq_emod_of_nonneg (Int.natCast_nonneg _),← Int.natCast_emod]
 have eX:IntKind.i64.wrap (Int.tdiv (q:Int) (L:Int))=((q/L:Nat):Int):=by
  have:q/L≤q:=Nat.div_le_self _ _
  rw [Int.tdiv_eq_ediv_of_nonneg (Int.natCast_nonneg _),← Int.natCast_ediv,wnat (by omega)]
 have o4:=in_o4 G K o c w m s L o1 c1 w1 hG hK bG bK s1 s64 iG iK L1 bL
 have h:=Fx (B:=fun go (z:Int×Int×Int×Int)=>f168_l41 ([(o:Int),(m:Int)],G) ([(o:Int),(c:Int),(w:Int)],K) s L (q:Int) go z.1 z.2.1 z.2.2.1 z.2.2.2)
  (fun i=>((i:Int),acc (sg (fun i=>sg (inF G K c w m s (q/L) (q%L) i) w) i))) o (acc (sg (fun i=>sg (inF G K c w m s (q/L) (q%L) i) w) o)) ?_ ?_ (by omega)
 ·exact h
 ·intro i hi go
  unfold f168_l41
  simp only
  have K2:=in_innerP G K o c w m s (q/L) (q%L) c1 w1 hG hK bG bK s1 s64 iG iK hx hl (L:Int) (q:Int) eL eX i hi _ rfl
  rw [show rd (0:Int) [(o:Int),(c:Int),(w:Int)] 0=(o:Int) from rfl,dT,cond_true]
  have inner':Fp (fun go (z:Int×Int×Int×Int)=>f168_l44 ([(o:Int),(m:Int)],G) ([(o:Int),(c:Int),(w:Int)],K) s L q (i:Int) go z.1 z.2.1 z.2.2.1 z.2.2.2) Fq ((0:Int),(acc (sg (fun i=>sg (inF G K c w m s (q/L) (q%L) i) w) i)).1,(acc (sg (fun i=>sg (inF G K c w m s (q/L) (q%L) i) w) i)).2.1,(acc (sg (fun i=>sg (inF G K c w m s (q/L) (q%L) i) w) i)).2.2)=_:=K2
  rw [inner',A9,Gh i]
  rfl
 ·intro go
  unfold f168_l41
  simp only
  rw [show rd (0:Int) [(o:Int),(c:Int),(w:Int)] 0=(o:Int) from rfl,dF,cond_false]
theorem in_loopP (r:List Int) :
  Fp (fun go (z:Int×List Int)=>f168_l32 ([(o:Int),(m:Int)],G) ([(o:Int),(c:Int),(w:Int)],K) s L (0,r,List.replicate (c*L) 0) go z.1 z.2) Fq ((0:Int),List.replicate (c*L) 0)=some (Ga (c*L) (inV G K o c w m s L)):=by
 have hL4:L≤4096:=Nat.le_trans (Nat.le_mul_of_pos_left _ c1) bL
 rw [Gk _ (inV G K o c w m s L)]
 have h:=Fx (B:=fun go (x:Int×List Int)=>f168_l32 ([(o:Int),(m:Int)],G) ([(o:Int),(c:Int),(w:Int)],K) s L (0,r,Kk (c*L) 0 (inV G K o c w m s L)) go x.1 x.2) (fun q=>((q:Int),Kk (c*L) q (inV G K o c w m s L))) (c*L) (Ga (c*L) (inV G K o c w m s L)) ?_ ?_ (by omega)
 ·exact h
 ·intro q hq go
  have hl:q%L<4096:=Nat.lt_of_lt_of_le (Nat.mod_lt _ L1) hL4
  have hx:q/L<c:=Nat.div_lt_of_lt_mul (by rw [Nat.mul_comm];exact hq)
  have hb:Bd (sg (fun i=>sg (inF G K c w m s (q/L) (q%L) i) w) o):=by
   have:=in_bd G K o c w m s (q/L) (q%L) c1 w1 hG hK bG bK s1 s64 iG iK hx hl (o-1) w (by omega) (Nat.le_refl _)
   obtain ⟨p,rfl⟩:∃ p,o=p+1:=⟨o-1,by omega⟩
   exact this
  obtain ⟨z,ez⟩:=acc_fix _ hb
  unfold f168_l32
  simp only [F9]
  rw [dT,cond_true,Bh,Bh,in_outP G K o c w m s L o1 c1 w1 hG hK bG bK s1 s64 iG iK L1 bL q hq,A9,ez,A9,Bh,Gh q,Int.toNat_natCast]
  have:=Gu (c*L) q (inV G K o c w m s L) _ hq (rfl:sat (rhe (sg (fun i=>sg (inF G K c w m s (q/L) (q%L) i) w) o))=inV G K o c w m s L q)
  simp only
  rw [this]
 ·intro go
  unfold f168_l32
  simp only [F9]
  rw [dF,cond_false,Gl]
end
def bst (V:List Int) (base:Nat):Nat→Nat
 | 0=>base
 | y+1=>if rd (0:Int) V ((base+(y+1):Nat):Int)>rd (0:Int) V (bst V base y:Int) then base+(y+1) else bst V base y
theorem bst_in (V:List Int) (base:Nat):∀ y,base≤bst V base y∧bst V base y≤base+y
 | 0=>⟨Nat.le_refl _,Nat.le_refl _⟩
 | y+1=>by
  have:=bst_in V base y
  simp only [bst]
  split <;> omega
theorem tab_push2 {α:Type} (n:Nat) (g:Nat→α):Ga n g++[g n]=Ga (n+1) g:=by simp [Ga,List.range_succ]
def pl (V:List Int) (L w q:Nat):Nat:=bst V (q/(L/w)*L+q%(L/w)*w) (w-1)
theorem Lc {c m:Nat} (h1:1≤c) (h2:1≤m) (h:c*m≤4096):0<prd [(c:Int),(m:Int)]∧(prd [(c:Int),(m:Int)]).toNat=c*m:=by
 have a1:c≤c*m:=Nat.le_mul_of_pos_right _ h2
 have a2:m≤c*m:=Nat.le_mul_of_pos_left _ h1
 have e:prd [(c:Int),(m:Int)]=((c*m:Nat):Int):=by rw [prd_two,if_neg (by rw [← Int.natCast_mul];omega),Int.natCast_mul]
 rw [e]
 exact ⟨by omega,Int.toNat_natCast _⟩
section
variable (V:List Int) (c L w:Nat) (c1:1≤c) (w1:1≤w) (hw:w≤L) (hV:V.length=c*L) (bV:c*L≤4096)
include c1 w1 hw hV bV
theorem pool_m:1≤L/w∧L/w≤L∧c*(L/w)≤4096∧L≤4096:=by
 have a:L/w≤L:=Nat.div_le_self _ _
 have b:c*(L/w)≤c*L:=Nat.mul_le_mul_left _ a
 exact ⟨(Nat.le_div_iff_mul_le w1).2 (by omega),a,by omega,Nat.le_trans (Nat.le_mul_of_pos_left _ c1) bV⟩
theorem pool_in {x j y:Nat} (hx:x<c) (hj:j<L/w) (hy:y<w):x*L+j*w+y<V.length:=by
 have h1:(j+1)*w≤L/w*w:=Nat.mul_le_mul_right _ hj
 have h2:L/w*w≤L:=Nat.div_mul_le_self _ _
 rw [Nat.add_mul,Nat.one_mul] at h1
 have:=Jm (c:=c) (L:=L) hx (show j*w+y<L by omega)
 rw [hV];omega
theorem pool_eM:IntKind.i64.wrap (Int.tdiv (L:Int) (w:Int))=((L/w:Nat):Int):=by
 obtain ⟨_,a,_,b⟩:=pool_m V c L w c1 w1 hw hV bV
 rw [Int.tdiv_eq_ediv_of_nonneg (by omega),← Int.natCast_ediv,wnat (by omega)]
theorem pool_bestP (q:Nat) (hq:q<c*(L/w)) :
  Fp (fun go (x:Int×Int)=>f213_l7 ([(c:Int),(L:Int)],V) w (q:Int) go x.1 x.2) Fq (((q/(L/w)*L+q%(L/w)*w:Nat):Int),((q/(L/w)*L+q%(L/w)*w+1:Nat):Int))=some (pl V L w q:Int):=by
 obtain ⟨m1,mL,mN,hL⟩:=pool_m V c L w c1 w1 hw hV bV
 have eM:=pool_eM V c L w c1 w1 hw hV bV
 have hx:q/(L/w)<c:=Nat.div_lt_of_lt_mul (by rw [Nat.mul_comm];exact hq)
 have hj:q%(L/w)<L/w:=Nat.mod_lt _ m1
 have eI:IntKind.i64.wrap (Int.tdiv (q:Int) ((L/w:Nat):Int))=((q/(L/w):Nat):Int):=by
  have:q/(L/w)≤q:=Nat.div_le_self _ _
  rw [Int.tdiv_eq_ediv_of_nonneg (by omega),← Int.natCast_ediv,wnat (by omega)]
 have eN:Int.tmod (q:Int) ((L/w:Nat):Int)=((q%(L/w):Nat):Int):=by
  rw [Int.tmod_eq_emod_of_nonneg (by omega),← Int.natCast_emod]
 have hend:=pool_in V c L w c1 w1 hw hV bV hx hj (show w-1<w by omega)
 unfold pl
 generalize q/(L/w)=x at *
 generalize q%(L/w)=j at *
 generalize hm:L/w=m at *
 have eB:IntKind.i64.wrap (IntKind.i64.wrap (IntKind.i64.wrap ((x:Int)*(L:Int))+IntKind.i64.wrap ((j:Int)*(w:Int)))+(w:Int))=((x*L+j*w+w:Nat):Int):=ixA x L j w w (by omega)
 have h:=Fx (B:=fun go (z:Int×Int)=>f213_l7 ([(c:Int),(L:Int)],V) w (q:Int) go z.1 z.2) (fun y=>((bst V (x*L+j*w) y:Int),((x*L+j*w+1+y:Nat):Int))) (w-1) (bst V (x*L+j*w) (w-1):Int) ?_ ?_ (by omega)
 ·exact h
 ·intro y hy go
  have hb:=bst_in V (x*L+j*w) y
  unfold f213_l7
  simp only
  have m0:((m:Nat):Int)≠0:=by omega
  rw [show rd (0:Int) [(c:Int),(L:Int)] 1=(L:Int) from rfl,eM,Bh m0,Bh m0,eI,eN,eB,dT,cond_true,Bh,Bh,Gh _]
  have e2:((x*L+j*w+1+y:Nat):Int)=((x*L+j*w+(y+1):Nat):Int):=by omega
  have e3:((x*L+j*w+1+y+1:Nat):Int)=((x*L+j*w+1+(y+1):Nat):Int):=by omega
  rw [e2,e3]
  simp only [bst]
  by_cases g:rd (0:Int) V ((x*L+j*w+(y+1):Nat):Int)>rd (0:Int) V (bst V (x*L+j*w) y:Int)
  ·rw [dT g,if_pos g];rfl
  ·rw [dF g,if_neg g];rfl
 ·intro go
  unfold f213_l7
  simp only
  have m0:((m:Nat):Int)≠0:=by omega
  rw [show rd (0:Int) [(c:Int),(L:Int)] 1=(L:Int) from rfl,eM,Bh m0,Bh m0,eI,eN,eB,dF,cond_false]
theorem pool_bestR (x j:Nat) (hx:x<c) (hj:j<L/w) :
  Fp (fun go (z:Int×Int)=>f134_l16 ([(c:Int),(L:Int)],V) w (x:Int) (j:Int) go z.1 z.2) Fq (((x*L+j*w:Nat):Int),(1:Int))=some (bst V (x*L+j*w) (w-1):Int):=by
 obtain ⟨m1,mL,mN,hL⟩:=pool_m V c L w c1 w1 hw hV bV
 have hend:=pool_in V c L w c1 w1 hw hV bV hx hj (show w-1<w by omega)
 have h:=Fx (B:=fun go (z:Int×Int)=>f134_l16 ([(c:Int),(L:Int)],V) w (x:Int) (j:Int) go z.1 z.2) (fun y=>((bst V (x*L+j*w) y:Int),((1+y:Nat):Int))) (w-1) (bst V (x*L+j*w) (w-1):Int) ?_ ?_ (by omega)
 ·exact h
 ·intro y hy go
  have hb:=bst_in V (x*L+j*w) y
  unfold f134_l16
  simp only
  rw [show rd (0:Int) [(c:Int),(L:Int)] 1=(L:Int) from rfl,dT,cond_true,ixA x L j w (1+y) (by omega),Bh,Bh,Gh _]
  have e2:((x*L+j*w+(1+y):Nat):Int)=((x*L+j*w+(y+1):Nat):Int):=by omega
  have e3:((1+y+1:Nat):Int)=((1+(y+1):Nat):Int):=by omega
  rw [e2,e3]
  simp only [bst]
  by_cases g:rd (0:Int) V ((x*L+j*w+(y+1):Nat):Int)>rd (0:Int) V (bst V (x*L+j*w) y:Int)
  ·rw [dT g,if_pos g];rfl
  ·rw [dF g,if_neg g];rfl
 ·intro go
  unfold f134_l16
  simp only
  rw [dF,cond_false]
def plT (N:Nat) (V:List Int) (L w:Nat):List Int:=Ga N (fun q=>(pl V L w q:Int))
def plV (V:List Int) (L w q:Nat):Int:=rd (0:Int) V (pl V L w q:Int)
theorem pl_in {q:Nat} (hq:q<c*(L/w)):pl V L w q<V.length:=by
 obtain ⟨m1,mL,mN,hL⟩:=pool_m V c L w c1 w1 hw hV bV
 have hx:q/(L/w)<c:=Nat.div_lt_of_lt_mul (by rw [Nat.mul_comm];exact hq)
 have hj:q%(L/w)<L/w:=Nat.mod_lt _ m1
 have hend:=pool_in V c L w c1 w1 hw hV bV hx hj (show w-1<w by omega)
 have:=bst_in V (q/(L/w)*L+q%(L/w)*w) (w-1)
 unfold pl;omega
theorem pool_loopP (r:List Int) :
  Fp (fun go (x:Int×List Int×List Int)=>f213_l6 ([(c:Int),(L:Int)],V) w (0,r,List.replicate (c*(L/w)) 0) go x.1 x.2.1 x.2.2) Fq ((0:Int),[],List.replicate (c*(L/w)) 0)=some (plT (c*(L/w)) V L w,Ga (c*(L/w)) (plV V L w)):=by
 obtain ⟨m1,mL,mN,hL⟩:=pool_m V c L w c1 w1 hw hV bV
 have eM:=pool_eM V c L w c1 w1 hw hV bV
 rw [Gk _ (plV V L w)]
 have h:=Fx (B:=fun go (x:Int×List Int×List Int)=>f213_l6 ([(c:Int),(L:Int)],V) w (0,r,Kk (c*(L/w)) 0 (plV V L w)) go x.1 x.2.1 x.2.2) (fun q=>((q:Int),plT q V L w,Kk (c*(L/w)) q (plV V L w))) (c*(L/w)) (plT (c*(L/w)) V L w,Ga (c*(L/w)) (plV V L w)) ?_ ?_ (by omega)
 ·exact h
 ·intro q hq go
  have hx:q/(L/w)<c:=Nat.div_lt_of_lt_mul (by rw [Nat.mul_comm];exact hq)
  have hj:q%(L/w)<L/w:=Nat.mod_lt _ m1
  have hend:=pool_in V c L w c1 w1 hw hV bV hx hj (show w-1<w by omega)
  have best:=pool_bestP V c L w c1 w1 hw hV bV q hq
  have hpl:=pl_in V c L w c1 w1 hw hV bV hq
  have eI:IntKind.i64.wrap (Int.tdiv (q:Int) ((L/w:Nat):Int))=((q/(L/w):Nat):Int):=by
   have:q/(L/w)≤q:=Nat.div_le_self _ _
   rw [Int.tdiv_eq_ediv_of_nonneg (by omega),← Int.natCast_ediv,wnat (by omega)]
  have eN:Int.tmod (q:Int) ((L/w:Nat):Int)=((q%(L/w):Nat):Int):=by
   rw [Int.tmod_eq_emod_of_nonneg (by omega),← Int.natCast_emod]
  unfold f213_l6
  simp only [F9]
  have m0:((L/w:Nat):Int)≠0:=by omega
  have e2:IntKind.i64.wrap (IntKind.i64.wrap (((q/(L/w):Nat):Int)*(L:Int))+IntKind.i64.wrap (((q%(L/w):Nat):Int)*(w:Int)))=((q/(L/w)*L+q%(L/w)*w:Nat):Int):=by
   rw [wmul _ L (by omega),wmul _ w (by omega),wadd _ _ (by omega)]
  have hlen:(plT q V L w).length=q:=Gb _ _
  rw [show rd (0:Int) [(c:Int),(L:Int)] 1=(L:Int) from rfl,eM,dT,cond_true,Bh m0,Bh m0,eI,eN,e2,Gh _,best,A9,Bh,Bh,
   Bh (by rw [hlen];simp only [List.length_cons,List.length_nil];omega),Gh q,Int.toNat_natCast]
  have:=Gu (c*(L/w)) q (plV V L w) (rd (0:Int) V (pl V L w q:Int)) hq rfl
  rw [this]
  have e4:plT q V L w++[(pl V L w q:Int)]=plT (q+1) V L w:=tab_push2 q (fun q=>(pl V L w q:Int))
  rw [e4]
 ·intro go
  unfold f213_l6
  simp only [F9]
  rw [dF,cond_false,Gl]
theorem pool_loopR :
  Fp (fun go (x:Int×List Int×List Int)=>f134_l12 ([(c:Int),(L:Int)],V) w go x.1 x.2.1 x.2.2) Fq ((0:Int),[],List.replicate (c*(L/w)) 0)=some (plT (c*(L/w)) V L w,Ga (c*(L/w)) (plV V L w)):=by
 obtain ⟨m1,mL,mN,hL⟩:=pool_m V c L w c1 w1 hw hV bV
 have eM:=pool_eM V c L w c1 w1 hw hV bV
 have hcN:c≤c*(L/w):=Nat.le_mul_of_pos_right _ m1
 rw [Gk _ (plV V L w)]
 have h:=Fx (B:=fun go (x:Int×List Int×List Int)=>f134_l12 ([(c:Int),(L:Int)],V) w go x.1 x.2.1 x.2.2) (fun x=>((x:Int),plT (x*(L/w)) V L w,Kk (c*(L/w)) (x*(L/w)) (plV V L w))) c (plT (c*(L/w)) V L w,Ga (c*(L/w)) (plV V L w)) ?_ ?_ (by omega)
 ·rw [Nat.zero_mul] at h;exact h
 ·intro x hx go
  unfold f134_l12
  simp only
  have K2:=Fx (B:=fun go (z:Int×List Int×List Int)=>f134_l15 ([(c:Int),(L:Int)],V) w (x:Int) go z.1 z.2.1 z.2.2) (fun j=>((j:Int),plT (x*(L/w)+j) V L w,Kk (c*(L/w)) (x*(L/w)+j) (plV V L w))) (L/w) (plT ((x+1)*(L/w)) V L w,Kk (c*(L/w)) ((x+1)*(L/w)) (plV V L w)) ?_ ?_ (by omega)
  ·rw [Nat.add_zero] at K2
   have inner':Fp (fun go (z:Int×List Int×List Int)=>f134_l15 ([(c:Int),(L:Int)],V) w (x:Int) go z.1 z.2.1 z.2.2) Fq ((0:Int),plT (x*(L/w)) V L w,Kk (c*(L/w)) (x*(L/w)) (plV V L w))=_:=K2
   rw [show rd (0:Int) [(c:Int),(L:Int)] 0=(c:Int) from rfl,dT,cond_true,inner',A9,Gh x]
  ·intro j hj go
   have hq:=Jm (c:=c) hx hj
   obtain ⟨d1,d2⟩:=K5 (x:=x) hj
   have hend:=pool_in V c L w c1 w1 hw hV bV hx hj (show w-1<w by omega)
   have best:=pool_bestR V c L w c1 w1 hw hV bV x j hx hj
   have hpl:=pl_in V c L w c1 w1 hw hV bV hq
   have ep:bst V (x*L+j*w) (w-1)=pl V L w (x*(L/w)+j):=by unfold pl;rw [d1,d2]
   have e2:IntKind.i64.wrap (IntKind.i64.wrap ((x:Int)*(L:Int))+IntKind.i64.wrap ((j:Int)*(w:Int)))=((x*L+j*w:Nat):Int):=by
    rw [wmul _ L (by omega),wmul _ w (by omega),wadd _ _ (by omega)]
   have hlen:(plT (x*(L/w)+j) V L w).length=x*(L/w)+j:=Gb _ _
   unfold f134_l15
   simp only [F9]
   rw [show rd (0:Int) [(c:Int),(L:Int)] 1=(L:Int) from rfl,eM,dT,cond_true,e2,best,A9,ep,Bh,ixM x (L/w) j (by omega),Bh,
    Bh (by rw [hlen];simp only [List.length_cons,List.length_nil];omega),Int.toNat_natCast,Gh j]
   have:=Gu (c*(L/w)) (x*(L/w)+j) (plV V L w) (rd (0:Int) V (pl V L w (x*(L/w)+j):Int)) hq rfl
   rw [this]
   have e4:plT (x*(L/w)+j) V L w++[(pl V L w (x*(L/w)+j):Int)]=plT (x*(L/w)+j+1) V L w:=tab_push2 _ (fun q=>(pl V L w q:Int))
   rw [e4]
   rfl
  ·intro go
   unfold f134_l15
   simp only
   rw [show rd (0:Int) [(c:Int),(L:Int)] 1=(L:Int) from rfl,eM,dF,cond_false,Nat.add_mul,Nat.one_mul]
 ·intro go
  unfold f134_l12
  simp only
  rw [show rd (0:Int) [(c:Int),(L:Int)] 0=(c:Int) from rfl,dF,cond_false,Gl]
end
def Gq (a:Tn) (wid:Int):Int×List Int×List Int×List Int:=
 if Fu a=true then
  if a.1.length=2 then
   if 1≤wid∧wid≤rd (0:Int) a.1 1 then
    (0,[rd (0:Int) a.1 0,(((rd (0:Int) a.1 1).toNat/wid.toNat:Nat):Int)],Ga ((rd (0:Int) a.1 0).toNat*((rd (0:Int) a.1 1).toNat/wid.toNat)) (plV a.2 (rd (0:Int) a.1 1).toNat wid.toNat),plT ((rd (0:Int) a.1 0).toNat*((rd (0:Int) a.1 1).toNat/wid.toNat)) a.2 (rd (0:Int) a.1 1).toNat wid.toNat)
   else (1,[],[],[])
  else (4,[],[],[])
 else (1,[],[],[])
theorem poolP (a:Tn) (wid:Int):f213 a wid=some (Gq a wid):=by
 have eg:f113 (a.1,a.2)=some (Fu a):=F8 a
 unfold f213 f213_j2 Gq
 rw [eg,A9]
 by_cases ga:Fu a=true
 ·rw [if_pos ga,ga,Bool.not_true,cond_false]
  by_cases f1:a.1.length=2
  ·rw [if_pos f1,nF,cond_false]
   by_cases h:1≤wid∧wid≤rd (0:Int) a.1 1
   ·have hj:f213_j3 a wid=some false:=by
     unfold f213_j3
     rw [dF,cond_false,Bh,dF]
    rw [if_pos h,hj,A9,cond_false,A9,Fl]
    obtain ⟨c,L,ea,c1,L1,la,ba⟩:=Gx ga f1
    obtain ⟨w,rfl⟩:=Int.eq_ofNat_of_zero_le (show 0≤wid by omega)
    generalize a.2=V at *
    subst ea
    have fw:(w:Int)≤(L:Int):=h.2
    have w1:1≤w:=by omega
    have hw:w≤L:=by omega
    obtain ⟨m1,mL,mN,hL⟩:=pool_m V c L w c1 w1 hw la ba
    obtain ⟨p0,pN⟩:=Lc c1 m1 mN
    rw [Bh (by simp),Bh (by simp),Bh,Bh (by simp),show rd (0:Int) [(c:Int),(L:Int)] 0=(c:Int) from rfl,show rd (0:Int) [(c:Int),(L:Int)] 1=(L:Int) from rfl,pool_eM V c L w c1 w1 hw la ba,of_ok,if_pos p0,pN,A9]
    simp only
    rw [pool_loopP V c L w c1 w1 hw la ba,A9]
    rfl
   ·have hj:f213_j3 a wid=some true:=by
     unfold f213_j3
     by_cases h1:wid<1
     ·rw [dT h1];rfl
     ·rw [dF h1,cond_false,Bh,dT]
    rw [if_neg h,hj];rfl
  ·rw [if_neg f1,nT];rfl
 ·rw [if_neg ga,show Fu a=false by simpa using ga];rfl
theorem poolR (a:Tn) (wid:Int):f134 a wid=some (Gq a wid):=by
 have eg:f118 (a.1,a.2)=some (Fu a):=isR a
 unfold f134 f134_j2 Gq
 rw [eg,A9]
 by_cases ga:Fu a=true
 ·rw [if_pos ga,ga,Bool.not_true,cond_false]
  by_cases f1:a.1.length=2
  ·rw [if_pos f1,nF,cond_false]
   by_cases h:1≤wid∧wid≤rd (0:Int) a.1 1
   ·have hj:f134_j3 a wid=some false:=by
     unfold f134_j3
     rw [dF,cond_false,Bh,dF]
    rw [if_pos h,hj,A9,cond_false,A9,Fl]
    obtain ⟨c,L,ea,c1,L1,la,ba⟩:=Gx ga f1
    obtain ⟨w,rfl⟩:=Int.eq_ofNat_of_zero_le (show 0≤wid by omega)
    generalize a.2=V at *
    subst ea
    have fw:(w:Int)≤(L:Int):=h.2
    have w1:1≤w:=by omega
    have hw:w≤L:=by omega
    obtain ⟨m1,mL,mN,hL⟩:=pool_m V c L w c1 w1 hw la ba
    obtain ⟨p0,pN⟩:=Lc c1 m1 mN
    rw [Bh (by simp),Bh (by simp),Bh,show rd (0:Int) [(c:Int),(L:Int)] 0=(c:Int) from rfl,show rd (0:Int) [(c:Int),(L:Int)] 1=(L:Int) from rfl,pool_eM V c L w c1 w1 hw la ba,newR _ _ p0,pN,A9]
    simp only
    rw [pool_loopR V c L w c1 w1 hw la ba,A9]
    rfl
   ·have hj:f134_j3 a wid=some true:=by
     unfold f134_j3
     by_cases h1:wid<1
     ·rw [dT h1];rfl
     ·rw [dF h1,cond_false,Bh,dT]
    rw [if_neg h,hj];rfl
  ·rw [if_neg f1,nT];rfl
 ·rw [if_neg ga,show Fu a=false by simpa using ga];rfl
end Go.Proofs.Cv
namespace Go.Proofs.Op
open Go.AM Go.Proofs.PlB Go.Proofs.PlW Go.Proofs.PlT Go.Proofs.PlS Go.Proofs.Sh Go.Proofs.Num Go.Proofs.Div Go.Proofs.PlR
theorem anyB_congr {n:Nat} {P Q:Nat→Bool} (h:∀ i,P i=Q i):anyB n P=anyB n Q:=by rw [show P=Q from funext h]
theorem jS_comm (a b:List Int):jS a b=jS b a:=by
 have e1:Lf a b=Lf b a:=by unfold Lf;split <;> split <;> omega
 have e2:∀ k,jMax a b k=jMax b a k:=fun k=>by unfold jMax;split <;> split <;> omega
 have e3:jL a b=jL b a:=by unfold jL;rw [e1];exact Ge _ _ _ (fun i _=>e2 _)
 have e4:anyB (Lf a b) (jBad a b)=anyB (Lf b a) (jBad b a):=by
  rw [e1]
  refine anyB_congr (fun k=>?_)
  unfold jBad
  rw [Bool.and_comm (Fy a k != 1),bne_comm]
 unfold jS
 rw [e3,e4]
 by_cases h:0<prd a∧0<prd b
 ·rw [if_pos h,if_pos (show 0<prd b∧0<prd a from ⟨h.2,h.1⟩)]
 ·rw [if_neg h,if_neg (show ¬(0<prd b∧0<prd a) from fun h2=>h ⟨h2.2,h2.1⟩)]
def foldT (g:Tn) (d:List Int):Tn:=(d,Kn (spX d g.1) g.2 (prd d).toNat g.2.length)
theorem K3 {g:Tn} {d:List Int} (hg:F4 g) (h:Fits d g.1):foldS g d=(0,foldT g d):=by
 unfold foldS foldT
 rw [if_pos ⟨hg.1,h.pd⟩,if_pos (jS_fits.2 h)]
theorem Ku {g:Tn} {d:List Int} (h:0<prd d):F4 (foldT g d):=
 ⟨G0 h (by have:=F2 d;show ((Kn _ _ _ _).length:Int)=prd d;rw [fold_len];omega),fold_inI _ _ _ _⟩
def mulT (g b:Tn):Tn:=(g.1,Ga g.2.length (fun i=>K9 (rd (0:Int) g.2 i) (rd (0:Int) b.2 (spX b.1 g.1 i))))
theorem mulS_fit {g b:Tn} (hg:F4 g) (hb:F4 b) (h:Fits b.1 g.1):Jd K9 g b=(0,mulT g b):=by
 obtain ⟨p,l,_,_⟩:=Fw hg.1
 unfold Jd mulT
 rw [if_pos ⟨hg.1,hb.1⟩,jS_comm,jS_fits.2 h,if_pos rfl]
 congr 2
 simp only
 rw [show (prd g.1).toNat=g.2.length by omega]
 exact Ge _ _ _ (fun i hi=>by rw [spX_self p i (by omega)])
theorem mulT_good {g b:Tn} (hg:F4 g):F4 (mulT g b):=by
 obtain ⟨p,l,_,_⟩:=Fw hg.1
 exact ⟨G0 p (by unfold mulT;rw [Gb];exact l),inI_tab (fun i hi=>Jg _)⟩
def scaleT (g:Tn) (k:Int):Tn:=(g.1,Ga g.2.length (fun i=>K9 (rd (0:Int) g.2 i) k))
theorem L8 {g:Tn} (hg:F4 g) (k:Int):scaleS g k=(0,scaleT g k):=by unfold scaleS scaleT;rw [if_pos hg.1]
theorem scaleT_good {g:Tn} (hg:F4 g) (k:Int):F4 (scaleT g k):=by
 obtain ⟨p,l,_,_⟩:=Fw hg.1
 exact ⟨G0 p (by unfold scaleT;rw [Gb];exact l),inI_tab (fun i hi=>Jg _)⟩
def newT (d:List Int) (v:Int):Tn:=(d,List.replicate (prd d).toNat v)
theorem newT_good {d:List Int} {v:Int} (h:0<prd d) (hv:InR v):F4 (newT d v):=
 ⟨G0 h (by have:=F2 d;unfold newT;simp only [List.length_replicate];omega),inI_rep _ _ hv⟩
abbrev noT:Tn:=([],[])
section
variable (l:List Nd) (i:Nat)
theorem ok_leaf (h:(gn l i).1=1) (ha:(gn l i).2.1=-1) (hb:(gn l i).2.2.1=-1):NodeOk l i (fun _=>noT) (fun _=>noT):=by
 refine ⟨fun g _ _=>?_,fun g _ _=>?_,fun g _ _ h0=>absurd h0 (by rw [ha];decide),fun g _ _ h0=>absurd h0 (by rw [hb];decide)⟩
 ·unfold f115 f115_j1;rw [h];rfl
 ·unfold f116;rw [h];rfl
theorem Ja (n:Nat) (h:n<l.length):vl l (n:Int)=nd l n:=by unfold vl;rw [iPo,Int.toNat_natCast]
theorem ok_add (A B:Nat) (h:(gn l i).1=2) (ha:(gn l i).2.1=A) (hb:(gn l i).2.2.1=B) (hA:A<i) (hB:B<i) (hi:i<l.length) (FA:Fits (nd l A).1 (nd l i).1) (FB:Fits (nd l B).1 (nd l i).1) :
  NodeOk l i (fun g=>foldT g (nd l A).1) (fun g=>foldT g (nd l B).1):=by
 refine ⟨fun g hg hd=>?_,fun g hg hd=>?_,fun g hg hd _=>?_,fun g hg hd _=>?_⟩
 ·unfold f115 f115_j1
  rw [h,ha,Ja l A (by omega)]
  show D4 (f160 g (nd l A).1) _=_
  rw [foldP _ _ hg.2,K3 hg (by rw [hd];exact FA)];rfl
 ·unfold f116
  rw [h,hb,Ja l B (by omega)]
  show D4 (f160 g (nd l B).1) _=_
  rw [foldP _ _ hg.2,K3 hg (by rw [hd];exact FB)];rfl
 ·rw [ha,Int.toNat_natCast];exact ⟨by omega,Ku FA.pd,rfl⟩
 ·rw [hb,Int.toNat_natCast];exact ⟨by omega,Ku FB.pd,rfl⟩
theorem ok_sub (A B:Nat) (h:(gn l i).1=3) (ha:(gn l i).2.1=A) (hb:(gn l i).2.2.1=B) (hA:A<i) (hB:B<i) (hi:i<l.length) (FA:Fits (nd l A).1 (nd l i).1) (FB:Fits (nd l B).1 (nd l i).1) :
  NodeOk l i (fun g=>foldT g (nd l A).1) (fun g=>foldT (scaleT g (-4294967296)) (nd l B).1):=by
 refine ⟨fun g hg hd=>?_,fun g hg hd=>?_,fun g hg hd _=>?_,fun g hg hd _=>?_⟩
 ·unfold f115 f115_j1
  rw [h,ha,Ja l A (by omega)]
  show D4 (f160 g (nd l A).1) _=_
  rw [foldP _ _ hg.2,K3 hg (by rw [hd];exact FA)];rfl
 ·unfold f116
  rw [h,hb,Ja l B (by omega)]
  show D4 (f163 g (-4294967296)) _=_
  have gs:=scaleT_good hg (-4294967296)
  rw [scaleP _ _ hg.2 (by decide),L8 hg,A9]
  show D4 (D4 (f160 (scaleT g (-4294967296)) (nd l B).1) _) _=_
  rw [foldP _ _ gs.2,K3 gs (by show Fits _ g.1;rw [hd];exact FB)];rfl
 ·rw [ha,Int.toNat_natCast];exact ⟨by omega,Ku FA.pd,rfl⟩
 ·rw [hb,Int.toNat_natCast];exact ⟨by omega,Ku FB.pd,rfl⟩
theorem ok_mul (A B:Nat) (h:(gn l i).1=4) (ha:(gn l i).2.1=A) (hb:(gn l i).2.2.1=B) (hA:A<i) (hB:B<i) (hi:i<l.length) (hgA:F4 (nd l A)) (hgB:F4 (nd l B)) (FA:Fits (nd l A).1 (nd l i).1) (FB:Fits (nd l B).1 (nd l i).1) :
  NodeOk l i (fun g=>foldT (mulT g (nd l B)) (nd l A).1) (fun g=>foldT (mulT g (nd l A)) (nd l B).1):=by
 refine ⟨fun g hg hd=>?_,fun g hg hd=>?_,fun g hg hd _=>?_,fun g hg hd _=>?_⟩
 ·unfold f115 f115_j1
  rw [h,ha,hb,Ja l A (by omega),Ja l B (by omega)]
  show D4 (f161 g (nd l B)) _=_
  have gs:=mulT_good (b:=nd l B) hg
  rw [mulP _ _ hg.2 hgB.2,mulS_fit hg hgB (by rw [hd];exact FB),A9]
  show D4 (D4 (f160 (mulT g (nd l B)) (nd l A).1) _) _=_
  rw [foldP _ _ gs.2,K3 gs (by show Fits _ g.1;rw [hd];exact FA)];rfl
 ·unfold f116
  rw [h,ha,hb,Ja l A (by omega),Ja l B (by omega)]
  show D4 (f161 g (nd l A)) _=_
  have gs:=mulT_good (b:=nd l A) hg
  rw [mulP _ _ hg.2 hgA.2,mulS_fit hg hgA (by rw [hd];exact FA),A9]
  show D4 (D4 (f160 (mulT g (nd l A)) (nd l B).1) _) _=_
  rw [foldP _ _ gs.2,K3 gs (by show Fits _ g.1;rw [hd];exact FB)];rfl
 ·rw [ha,Int.toNat_natCast];exact ⟨by omega,Ku FA.pd,rfl⟩
 ·rw [hb,Int.toNat_natCast];exact ⟨by omega,Ku FB.pd,rfl⟩
theorem ok_scale (A:Nat) (K:Int) (h:(gn l i).1=5) (ha:(gn l i).2.1=A) (hb:(gn l i).2.2.1=-1) (hk:(gn l i).2.2.2.1=K) (hA:A<i) (hi:i<l.length) (hK:InR K) (hd:(nd l A).1=(nd l i).1) :
  NodeOk l i (fun g=>scaleT g K) (fun _=>noT):=by
 refine ⟨fun g hg hd=>?_,fun g hg hd=>?_,fun g hg hdd _=>?_,fun g _ _ h0=>absurd h0 (by rw [hb];decide)⟩
 ·unfold f115 f115_j1
  rw [h,hk]
  show D4 (f163 g K) _=_
  rw [scaleP _ _ hg.2 hK,L8 hg];rfl
 ·unfold f116;rw [h];rfl
 ·rw [ha,Int.toNat_natCast];exact ⟨by omega,scaleT_good hg K,by show g.1=_;rw [hdd,hd]⟩
theorem one_rd {g:Tn} (hg:F4 g) (h1:prd g.1=1):0<g.2.length∧InR (rd (0:Int) g.2 0):=by
 obtain ⟨p,l,_,_⟩:=Fw hg.1
 exact ⟨by omega,Jh hg.2 0 (by omega)⟩
theorem ok_all (A:Nat) (h:(gn l i).1=9) (ha:(gn l i).2.1=A) (hb:(gn l i).2.2.1=-1) (hA:A<i) (hi:i<l.length) (hgA:F4 (nd l A)) (hd:(nd l i).1=[]) :
  NodeOk l i (fun g=>newT (nd l A).1 (rd (0:Int) g.2 0)) (fun _=>noT):=by
 obtain ⟨pA,_,_,_⟩:=Fw hgA.1
 refine ⟨fun g hg hdd=>?_,fun g hg hd=>?_,fun g hg hdd _=>?_,fun g _ _ h0=>absurd h0 (by rw [hb];decide)⟩
 ·obtain ⟨g0,g1⟩:=one_rd hg (by rw [hdd,hd];rfl)
  unfold f115 f115_j1
  rw [h,ha,Ja l A (by omega)]
  show Ey (0≤(0:Int)∧(0:Int)<(List.length g.2:Int)) _=_
  rw [Bh,Ky,if_pos pA];rfl
 ·unfold f116;rw [h];rfl
 ·obtain ⟨g0,g1⟩:=one_rd hg (by rw [hdd,hd];rfl)
  rw [ha,Int.toNat_natCast];exact ⟨by omega,newT_good pA g1,rfl⟩
def meanG (g:Tn) (n:Nat):Int:=sat (rdI (rd (0:Int) g.2 0) n)
theorem ok_mean (A:Nat) (h:(gn l i).1=10) (ha:(gn l i).2.1=A) (hb:(gn l i).2.2.1=-1) (hA:A<i) (hi:i<l.length) (hgA:F4 (nd l A)) (hd:(nd l i).1=[]) :
  NodeOk l i (fun g=>newT (nd l A).1 (meanG g (nd l A).2.length)) (fun _=>noT):=by
 obtain ⟨pA,lA,_,lA2⟩:=Fw hgA.1
 refine ⟨fun g hg hdd=>?_,fun g hg hd=>?_,fun g hg hdd _=>?_,fun g _ _ h0=>absurd h0 (by rw [hb];decide)⟩
 ·obtain ⟨g0,g1⟩:=one_rd hg (by rw [hdd,hd];rfl)
  unfold f115 f115_j1
  rw [h,ha,Ja l A (by omega)]
  show Ey (0≤(0:Int)∧(0:Int)<(List.length g.2:Int)) _=_
  unfold InR at g1
  rw [Bh,PlV.of_ok _ g1.1 g1.2,A9]
  show D4 (f145 (PlV.pair (rd (0:Int) g.2 0)) (List.length (nd l A).2:Int)) _=_
  rw [over_ok _ _ (by omega) (by omega) (by omega) (by omega) (by omega),A9,Ky,if_pos pA];rfl
 ·unfold f116;rw [h];rfl
 ·rw [ha,Int.toNat_natCast];exact ⟨by omega,newT_good pA (Jg _),rfl⟩
def unbentT (kind:Int) (t g:Tn):Tn:=(t.1,Ga t.2.length (fun i=>K9 (rd (0:Int) g.2 i) (Kl kind (rd (0:Int) t.2 i))))
theorem ok_bend (A:Nat) (K:Int) (h:(gn l i).1=11) (ha:(gn l i).2.1=A) (hb:(gn l i).2.2.1=-1) (hk:(gn l i).2.2.2.1=K) (k0:1≤K) (k5:K≤5) (hA:A<i) (hi:i<l.length) (hgA:F4 (nd l A)) (hd:(nd l A).1=(nd l i).1) :
  NodeOk l i (fun g=>unbentT K (nd l A) g) (fun _=>noT):=by
 obtain ⟨pA,lA,_,lA2⟩:=Fw hgA.1
 refine ⟨fun g hg hdd=>?_,fun g hg hd=>?_,fun g hg hdd _=>?_,fun g _ _ h0=>absurd h0 (by rw [hb];decide)⟩
 ·unfold f115 f115_j1
  rw [h,ha,hk,Ja l A (by omega)]
  show D4 (f167 K (nd l A) g) _=_
  rw [unbentP _ _ _ hg.2]
  unfold unbentS
  rw [if_pos ⟨k0,k5,hgA.1,hg.1⟩,if_pos (by rw [hd,hdd])];rfl
 ·unfold f116;rw [h];rfl
 ·rw [ha,Int.toNat_natCast]
  exact ⟨by omega,⟨G0 pA (by unfold unbentT;rw [Gb];exact lA),inI_tab (fun i hi=>Jg _)⟩,rfl⟩
end
end Go.Proofs.Op
namespace Go.Proofs.Cv
open Go.AM Go.Proofs.PlB Go.Proofs.PlW Go.Proofs.PlT Go.Proofs.PlS Go.Proofs.Sh Go.Proofs.Num Go.Proofs.Div Go.Proofs.Op
open Go.Proofs.PlR hiding Tn
theorem hor_in2 {d p:List Int}:∀ k:Nat,(∀ j,j<k→0≤rd (0:Int) p (j:Int)∧rd (0:Int) p (j:Int)<rd (0:Int) d (j:Int))→k≤d.length→0≤hor d p k∧hor d p k<Ft (d.take k)
 | 0,_,_=>by simp [hor,Ft]
 | k+1,W,h=>by
  obtain ⟨h1,h2⟩:=hor_in2 k (fun j hj=>W j (by omega)) (by omega)
  obtain ⟨l,u⟩:=W k (by omega)
  rw [Kt k (by omega)]
  simp only [hor]
  have m1:0≤hor d p k*rd (0:Int) d (k:Int):=Int.mul_nonneg h1 (by omega)
  have m2:(hor d p k+1)*rd (0:Int) d (k:Int)≤Ft (d.take k)*rd (0:Int) d (k:Int):=Int.mul_le_mul_of_nonneg_right (by omega) (by omega)
  rw [Int.add_mul,Int.one_mul] at m2
  constructor <;> omega
theorem hor_small2 {d p:List Int} (hd:0<prd d) (k:Nat) (W:∀ j,j<k→0≤rd (0:Int) p (j:Int)∧rd (0:Int) p (j:Int)<rd (0:Int) d (j:Int)) (hk:k≤d.length):0≤hor d p k∧hor d p k<prd d∧hor d p k<4096:=by
 obtain ⟨e,h1,h2⟩:=Gw hd
 have hr:=F2 d
 obtain ⟨a,b⟩:=hor_in2 k W hk
 obtain ⟨_,c⟩:=prodL_le (fun x hx=>(h1 x hx).1) k
 omega
theorem at_any (d p:List Int) (hd:0<prd d):∃ q b,f204 d p=some (q,b)∧0≤q∧q<prd d:=by
 have hl:=Gy hd
 unfold f204 f204_j1
 rw [Gn,A9,dT (show prd d>0 from hd),Bool.not_true,cond_false]
 by_cases hp:p.length=d.length
 ·rw [nF,cond_false,A9,Fl]
  have LL:=Gd (B:=fun go (x:Int×Int)=>f204_l4 d p go x.1 x.2)
   (fun x=>∃ k:Nat,k≤d.length∧x=(hor d p k,(k:Int))∧∀ j,j<k→0≤rd (0:Int) p (j:Int)∧rd (0:Int) p (j:Int)<rd (0:Int) d (j:Int)) (fun x=>d.length-x.2.toNat)
   (fun z=>∀ v,z=Sum.inr v→0≤v∧v<prd d) ?_ ((0:Int),(0:Int)) ⟨0,by omega,rfl,fun j hj=>absurd hj (by omega)⟩ (by simp only;omega)
  ·obtain ⟨z,ez,hz⟩:=LL
   rw [ez,A9]
   cases z with
   | inl u=>exact ⟨0,false,rfl,by omega,hd⟩
   | inr v=>exact ⟨v,true,rfl,hz v rfl⟩
  ·rintro _ ⟨k,hk,rfl,W⟩
   by_cases hkk:k<d.length
   ·by_cases hw:0≤rd (0:Int) p (k:Int)∧rd (0:Int) p (k:Int)<rd (0:Int) d (k:Int)
    ·have W2:∀ j,j<k+1→0≤rd (0:Int) p (j:Int)∧rd (0:Int) p (j:Int)<rd (0:Int) d (j:Int):=fun j hj=>by
      by_cases e:j=k
      ·subst e;exact hw
      ·exact W j (by omega)
     obtain ⟨a,b,c⟩:=hor_small2 hd k W hk
     obtain ⟨a2,b2,c2⟩:=hor_small2 hd (k+1) W2 hkk
     refine .inr ⟨(hor d p (k+1),((k+1:Nat):Int)),fun go=>?_,⟨k+1,hkk,rfl,W2⟩,by simp only;omega⟩
     have hj:f204_j5 d p (k:Int)=some (Sum.inl ()):=by
      unfold f204_j5
      rw [dF,cond_false,Bh,dF];rfl
     simp only [hor] at a2 b2 c2
     have m1:0≤hor d p k*rd (0:Int) d (k:Int):=Int.mul_nonneg a (by omega)
     unfold f204_l4
     simp only
     rw [dT,cond_true,Bh,hj,A9,Fl,Bh,Gh k,E9 (n:=hor d p k*rd (0:Int) d (k:Int)) (by omega) (by omega),E9]
     rfl
    ·refine .inl ⟨Sum.inl (),fun go=>?_,fun v h=>absurd h (by simp)⟩
     have hj:f204_j5 d p (k:Int)=some (Sum.inr ()):=by
      unfold f204_j5
      by_cases h1:rd (0:Int) p (k:Int)<0
      ·rw [dT h1];rfl
      ·rw [dF h1,cond_false,Bh,dT];rfl
     unfold f204_l4
     simp only
     rw [dT,cond_true,Bh,hj,A9,F6]
   ·obtain rfl:k=d.length:=by omega
    obtain ⟨a,b,c⟩:=hor_small2 hd _ W (Nat.le_refl _)
    refine .inl ⟨Sum.inr (hor d p d.length),fun go=>?_,fun v h=>by injection h with h;subst h;exact ⟨a,b⟩⟩
    unfold f204_l4
    simp only
    rw [dF,cond_false]
 ·rw [nT,cond_true,A9,F6]
  exact ⟨0,false,rfl,by omega,hd⟩
theorem rd_any {l:List Int} (h:inI l) (q:Int) (h0:0≤q) (h1:q<l.length):InR (rd (0:Int) l q):=by
 obtain ⟨k,rfl⟩:=Int.eq_ofNat_of_zero_le h0
 exact Jh h k (by omega)
theorem pool_places (a:Tn) (w:Int) (h:(Gq a w).1=0):Fu a=true∧(((Gq a w).2.2.2.length:Nat):Int)=prd (Gq a w).2.1∧(Gq a w).2.2.2.length≤4096∧∀ k:Nat,k<(Gq a w).2.2.2.length→0≤rd (0:Int) (Gq a w).2.2.2 (k:Int)∧rd (0:Int) (Gq a w).2.2.2 (k:Int)<a.2.length:=by
 unfold Gq at h ⊢
 by_cases c:Fu a=true
 ·rw [if_pos c] at h ⊢
  by_cases e:a.1.length=2
  ·rw [if_pos e] at h ⊢
   by_cases f:1≤w∧w≤rd (0:Int) a.1 1
   ·rw [if_pos f] at h ⊢
    obtain ⟨cc,L,ea,c1,L1,la,ba⟩:=Gx c e
    obtain ⟨w',rfl⟩:=Int.eq_ofNat_of_zero_le (show 0≤w by omega)
    refine ⟨c,?_⟩
    clear h c e
    generalize a.2=V at *
    subst ea
    have fw:(w':Int)≤(L:Int):=f.2
    have w1:1≤w':=by omega
    obtain ⟨m1,mL,mN,hL⟩:=pool_m V cc L w' c1 w1 (by omega) la ba
    obtain ⟨p0,pN⟩:=Lc c1 m1 mN
    have hlen:(plT (cc*(L/w')) V L w').length=cc*(L/w'):=Gb _ _
    have key:(((plT (cc*(L/w')) V L w').length:Nat):Int)=prd [(cc:Int),((L/w':Nat):Int)]∧(plT (cc*(L/w')) V L w').length≤4096∧∀ k:Nat,k<(plT (cc*(L/w')) V L w').length→0≤rd (0:Int) (plT (cc*(L/w')) V L w') (k:Int)∧rd (0:Int) (plT (cc*(L/w')) V L w') (k:Int)<V.length:=by
     refine ⟨by rw [hlen];omega,by omega,fun k hk=>?_⟩
     rw [hlen] at hk
     have:=pl_in V cc L w' c1 w1 (by omega) la ba hk
     have er:rd (0:Int) (plT (cc*(L/w')) V L w') (k:Int)=(pl V L w' k:Int):=Kx _ _ _ _ hk
     rw [er]
     constructor <;> omega
    exact key
   ·rw [if_neg f] at h;exact absurd h (by decide)
  ·rw [if_neg e] at h;exact absurd h (by decide)
 ·rw [if_neg c] at h;exact absurd h (by decide)
structure GW (root:Nat) (ls:List Tn) (gv:List Bool):Prop where
 w1:ls.length=root+1
 w2:gv.length=root+1
 wI:∀ i,i≤root→inI (rd Z2 ls (i:Int)).2
def flS (a:Tn):Int×Tn:=
 if Fu a=true then
  if a.1.length=2 then (0,[rd (0:Int) a.1 1,rd (0:Int) a.1 0],Ga ((rd (0:Int) a.1 1).toNat*(rd (0:Int) a.1 0).toNat) (PlM.flipV (rd (0:Int) a.1 0).toNat (rd (0:Int) a.1 1).toNat a.2))
  else (4,[],[])
 else (1,[],[])
theorem mat_of {n m:Nat} (h1:1≤n) (h2:1≤m) (h:n*m≤4096):PlM.Mat n m:=by
 have a1:n≤n*m:=Nat.le_mul_of_pos_right _ h2
 have a2:m≤n*m:=Nat.le_mul_of_pos_left _ h1
 exact ⟨by omega,by omega,by omega,by omega,by rw [← Int.natCast_mul];omega⟩
theorem flP (a:Tn):f165 a=some (flS a):=by
 unfold flS
 by_cases ga:Fu a=true
 ·rw [if_pos ga]
  by_cases f1:a.1.length=2
  ·rw [if_pos f1]
   obtain ⟨n,m,ea,n1,m1,la,ba⟩:=Gx ga f1
   clear ga f1
   generalize a.2=V at *
   subst ea
   exact PlM.flip_ok n m V (mat_of n1 m1 ba) la
  ·rw [if_neg f1]
   unfold f165 f201
   have eg:f113 (a.1,a.2)=some (Fu a):=F8 a
   simp only [A9]
   rw [eg,ga,A9,Bool.not_true,cond_false,bF (show ¬(a.1.length:Int)=2 by omega)];rfl
 ·rw [if_neg ga]
  unfold f165
  have eg:f113 (a.1,a.2)=some (Fu a):=F8 a
  rw [eg,show Fu a=false by simpa using ga];rfl
def sw2 (x y:Int):Nat→Int×List Int
 | 0=>(0,[0,0])
 | 1=>(1,[0,x])
 | _=>(2,[y,x])
theorem swap_loop (x y:Int):Fp (fun go (z:Int×List Int)=>f182_l20 [1,0] (true,[x,y]) go z.1 z.2) Fq ((0:Int),[0,0])=some [y,x]:=
 Fx (B:=fun go (z:Int×List Int)=>f182_l20 [1,0] (true,[x,y]) go z.1 z.2) (sw2 x y) 2 [y,x] (fun k hk go=>by
  match k,hk with
  | 0,_=>rfl
  | 1,_=>rfl) (fun go=>rfl) (by omega)
theorem turn_loop (n m:Nat) (V:List Int) (n1:1≤n) (m1:1≤m) (hV:V.length=n*m) (bV:n*m≤4096) :
  Fp (fun go (x:Int×List Int)=>f182_l19 ([(n:Int),(m:Int)],V) [1,0] [(m:Int),(n:Int)] go x.1 x.2) Fq ((0:Int),List.replicate (m*n) 0)=some (Ga (m*n) (PlM.flipV n m V)):=by
 have bm:m*n≤4096:=by rw [Nat.mul_comm];exact bV
 obtain ⟨pm,pmN⟩:=Lc m1 n1 bm
 obtain ⟨pn,pnN⟩:=Lc n1 m1 bV
 rw [Gk _ (PlM.flipV n m V)]
 have h:=Fx (B:=fun go (x:Int×List Int)=>f182_l19 ([(n:Int),(m:Int)],V) [1,0] [(m:Int),(n:Int)] go x.1 x.2) (fun q=>((q:Int),Kk (m*n) q (PlM.flipV n m V))) (m*n) (Ga (m*n) (PlM.flipV n m V)) ?_ ?_ (by omega)
 ·exact h
 ·intro q hq go
  have q1:(q:Int)<prd [(m:Int),(n:Int)]:=by omega
  have W:=plc_within pm (q:Int)
  have h1:=hor_plc pm (q:Int) (by omega) q1 1 (by simp)
  have h2:=hor_plc pm (q:Int) (by omega) q1 2 (by simp)
  have pl:=placeR [(m:Int),(n:Int)] pm (q:Int) (by omega) q1
  obtain ⟨x,y,hxy⟩:∃ x y,plc [(m:Int),(n:Int)] (q:Int)=[x,y]:=⟨_,_,two_of (d:=plc [(m:Int),(n:Int)] (q:Int)) (plc_len _ _)⟩
  rw [hxy] at W h1 h2 pl
  have w0:0≤x:=W.lo 0 (by simp)
  have w1:0≤y:=W.lo 1 (by simp)
  have u0:x<(m:Int):=W.hi 0 (by simp)
  have u1:y<(n:Int):=W.hi 1 (by simp)
  have e0:x=((q/n:Nat):Int):=by
   have a1:hor [(m:Int),(n:Int)] [x,y] 1=x:=by show 0*(m:Int)+x=x;rw [Int.zero_mul,Int.zero_add]
   have a2:rst [(m:Int),(n:Int)] (q:Int) ([(m:Int),(n:Int)].length-1)=(q:Int)/(n:Int):=rfl
   rw [a1,a2] at h1
   rw [h1,Int.natCast_ediv]
  have e1:y=((q%n:Nat):Int):=by
   have a1:hor [(m:Int),(n:Int)] [x,y] 2=x*(n:Int)+y:=by
    show (0*(m:Int)+x)*(n:Int)+y=_
    rw [Int.zero_mul,Int.zero_add]
   have a3:rst [(m:Int),(n:Int)] (q:Int) ([(m:Int),(n:Int)].length-2)=(q:Int):=rfl
   rw [a1,a3,e0] at h2
   have a4:=Nat.div_add_mod q n
   have a5:((q/n:Nat):Int)*(n:Int)=((n*(q/n):Nat):Int):=by rw [Int.natCast_mul,Int.mul_comm]
   omega
  have W2:Within [(n:Int),(m:Int)] [y,x]:=⟨rfl,fun k hk=>by
    match k,hk with
    | 0,_=>exact w1
    | 1,_=>exact w0,fun k hk=>by
    match k,hk with
    | 0,_=>exact u1
    | 1,_=>exact u0⟩
  have eat:=atR pn W2
  have eh:hor [(n:Int),(m:Int)] [y,x] [(n:Int),(m:Int)].length=((q%n*m+q/n:Nat):Int):=by
   show (0*(n:Int)+y)*(m:Int)+x=_
   rw [Int.zero_mul,Int.zero_add,e0,e1,← Int.natCast_mul,← Int.natCast_add]
  rw [eh] at eat
  have hlt:=PlM.flip_at n m q n1 hq
  unfold f182_l19
  simp only [F9]
  have gl:0≤(List.length [x,y]:Int)∧(List.length [x,y]:Int)≤(List.length [x,y]:Int)∧Int.toNat (List.length [x,y]:Int)*8≤140737488355328:=by
   show 0≤((2:Nat):Int)∧((2:Nat):Int)≤((2:Nat):Int)∧Int.toNat ((2:Nat):Int)*8≤140737488355328
   decide
  have sl:Fp (fun go (z:Int×List Int)=>f182_l20 [1,0] (true,[x,y]) go z.1 z.2) Fq ((0:Int),List.replicate (Int.toNat (List.length [x,y]:Int)) (0:Int))=some [y,x]:=swap_loop x y
  rw [dT,cond_true,pl,A9,Bh gl,sl,A9,eat,A9,Bh (by rw [hV];omega),Bh,Gh q,Int.toNat_natCast]
  have:=Gu (m*n) q (PlM.flipV n m V) (rd (0:Int) V ((q%n*m+q/n:Nat):Int)) hq (by unfold PlM.flipV;exact rd_getD V _ (by omega))
  rw [this]
 ·intro go
  unfold f182_l19
  simp only [F9]
  rw [dF,cond_false,Gl]
theorem flR (a:Tn):f125 a=some (flS a):=by
 have eg:f118 (a.1,a.2)=some (Fu a):=isR a
 unfold f125 flS
 rw [eg,A9]
 by_cases ga:Fu a=true
 ·rw [if_pos ga,ga,Bool.not_true,cond_false]
  by_cases f1:a.1.length=2
  ·rw [if_pos f1,nF,cond_false]
   obtain ⟨n,m,ea,n1,m1,la,ba⟩:=Gx ga f1
   have hj:f182_j2 a [1,0]=some (Sum.inl ()):=by
    unfold f182_j2 f182_j3
    rw [eg,ga,A9,Bool.not_true,cond_false,nF (show (List.length [(1:Int),0]:Int)=(a.1.length:Int) by rw [f1];rfl)];rfl
   clear ga f1 eg
   generalize a.2=V at *
   subst ea
   have bm:m*n≤4096:=by rw [Nat.mul_comm];exact ba
   obtain ⟨pm,pmN⟩:=Lc m1 n1 bm
   have hd:Fp (fun go (x:Int×List Int)=>f182_l12 ([(n:Int),(m:Int)],V) [1,0] go x.1 x.2) Fq ((0:Int),[])=some (Sum.inr [(m:Int),(n:Int)]):=
    Fx (B:=fun go (x:Int×List Int)=>f182_l12 ([(n:Int),(m:Int)],V) [1,0] go x.1 x.2) (fun k=>((k:Int),[(m:Int),(n:Int)].take k)) 2 (Sum.inr [(m:Int),(n:Int)]) (fun k hk go=>by
     match k,hk with
     | 0,_=>
      have e:Fp (fun go x=>f182_l16 [1,0] 0 go x) Fq (0:Int)=some (Sum.inr ()):=by kernel_rfl
      show f182_l12 ([(n:Int),(m:Int)],V) [1,0] go 0 []=_
      unfold f182_l12
      rw [show decide ((0:Int)<(List.length [(1:Int),0]:Int))=true from rfl,cond_true,show f182_j14 [1,0] 0=some (Sum.inl ()) from rfl,A9,Fl,e];rfl
     | 1,_=>
      have e:Fp (fun go x=>f182_l16 [1,0] 1 go x) Fq (0:Int)=some (Sum.inr ()):=by kernel_rfl
      show f182_l12 ([(n:Int),(m:Int)],V) [1,0] go 1 [(m:Int)]=_
      unfold f182_l12
      rw [show decide ((1:Int)<(List.length [(1:Int),0]:Int))=true from rfl,cond_true,show f182_j14 [1,0] 1=some (Sum.inl ()) from rfl,A9,Fl,e];rfl) (fun go=>rfl) (by omega)
   have hT:f182 ([(n:Int),(m:Int)],V) [1,0]=some (0,[(m:Int),(n:Int)],Ga (m*n) (PlM.flipV n m V)):=by
    unfold f182
    rw [hj,A9,Fl,hd,A9,F6,newR _ _ pm,pmN,A9]
    simp only
    rw [turn_loop n m V n1 m1 la ba];rfl
   show D4 (f182 ([(n:Int),(m:Int)],V) [1,0]) _=_
   rw [hT];rfl
  ·rw [if_neg f1,nT];rfl
 ·rw [if_neg ga,show Fu a=false by simpa using ga];rfl
end Go.Proofs.Cv

