import Derived.Test.YtnedcilckcemaaaGreatBackOnesQ0
set_option linter.unusedVariables false
set_option linter.unusedSimpArgs false
set_option maxRecDepth 100000
set_option linter.unusedSectionVars false

namespace Go.Proofs.PlV
open Go.AM Go.Proofs.PlB Go.Proofs.PlW Go.Proofs.PlT
def cl (n:Nat):Bool:=(f153 (n:Int)==some 56&&(decide (128≤(n:Int)*1)&&decide ((n:Int)*1≤255)))||(f153 (n:Int)==some 57&&(decide (128≤(n:Int)*2)&&decide ((n:Int)*2≤255)))||(f153 (n:Int)==some 58&&(decide (128≤(n:Int)*4)&&decide ((n:Int)*4≤255)))||(f153 (n:Int)==some 59&&(decide (128≤(n:Int)*8)&&decide ((n:Int)*8≤255)))||(f153 (n:Int)==some 60&&(decide (128≤(n:Int)*16)&&decide ((n:Int)*16≤255)))||(f153 (n:Int)==some 61&&(decide (128≤(n:Int)*32)&&decide ((n:Int)*32≤255)))||(f153 (n:Int)==some 62&&(decide (128≤(n:Int)*64)&&decide ((n:Int)*64≤255)))||(f153 (n:Int)==some 63&&(decide (128≤(n:Int)*128)&&decide ((n:Int)*128≤255)))
theorem cl_all:(List.range 201).all (fun n=>n==0||cl n)=true:=by kernel_rfl
theorem clz_ok (n:Nat) (h1:n<201) (h0:1≤n):(f153 (n:Int)=some 56∧128≤(n:Int)*1∧(n:Int)*1≤255)∨(f153 (n:Int)=some 57∧128≤(n:Int)*2∧(n:Int)*2≤255)∨(f153 (n:Int)=some 58∧128≤(n:Int)*4∧(n:Int)*4≤255)∨(f153 (n:Int)=some 59∧128≤(n:Int)*8∧(n:Int)*8≤255)∨(f153 (n:Int)=some 60∧128≤(n:Int)*16∧(n:Int)*16≤255)∨(f153 (n:Int)=some 61∧128≤(n:Int)*32∧(n:Int)*32≤255)∨(f153 (n:Int)=some 62∧128≤(n:Int)*64∧(n:Int)*64≤255)∨(f153 (n:Int)=some 63∧128≤(n:Int)*128∧(n:Int)*128≤255):=by
 have h:=List.all_eq_true.1 cl_all n (List.mem_range.2 h1)
 rw [Bool.or_eq_true] at h
 rcases h with h | h
 ·simp at h;omega
 ·simpa only [cl,Bool.or_eq_true,Bool.and_eq_true,beq_iff_eq,decide_eq_true_eq,or_assoc] using h
end Go.Proofs.PlV
namespace Go.Proofs.PlR
open Go.AM Go.Proofs.PlB Go.Proofs.PlW Go.Proofs.PlT Go.Proofs.PlS Go.Proofs.PlV
def sumL:List Int→Int
 | []=>0
 | x::r=>x+sumL r
theorem sumL_app:∀ a b:List Int,sumL (a++b)=sumL a+sumL b
 | [],b=>by simp [sumL]
 | x::r,b=>by simp only [List.cons_append,sumL,sumL_app r b];omega
theorem sumL_bound (b:Int) (hb:0≤b):∀ l:List Int,(∀ x ∈ l,-b≤x∧x≤b)→-(l.length*b)≤sumL l∧sumL l≤l.length*b
 | [],_=>by simp [sumL]
 | x::r,h=>by
  have h1:=h x (by simp)
  have h2:=sumL_bound b hb r (fun y hy=>h y (by simp [hy]))
  simp only [sumL,List.length_cons,Int.natCast_add,Int.natCast_one,Int.add_mul,Int.one_mul]
  omega
theorem far_sum (l:List Int) (il:inI l) (hl:l.length≤4096):far (sumL l):=by
 have h:=sumL_bound 9223372036854775808 (by decide) l (fun x hx=>by have:=il x hx;omega)
 unfold far;omega
theorem total_ok (l:List Int) (il:inI l) (hl:l.length≤4096):f143 l=some (pair (sumL l)):=by
 unfold f143
 have H:∀ x:Int×Int×Int,(∃ k:Nat,k≤l.length∧x=((k:Int),(pair (sumL (l.take k))).1,(pair (sumL (l.take k))).2))→
   (∃ z,(∀ go,f143_l1 l go x.1 x.2.1 x.2.2=some z)∧z=pair (sumL l))∨
   (∃ y:Int×Int×Int,(∀ go,f143_l1 l go x.1 x.2.1 x.2.2=go y)∧(∃ k:Nat,k≤l.length∧y=((k:Int),(pair (sumL (l.take k))).1,(pair (sumL (l.take k))).2))∧((l.length:Int)-y.1).toNat<((l.length:Int)-x.1).toNat):=by
  rintro _ ⟨k,hk,rfl⟩
  unfold f143_l1
  simp only
  by_cases h:k<l.length
  ·right
   refine ⟨(((k+1:Nat):Int),(pair (sumL (l.take (k+1)))).1,(pair (sumL (l.take (k+1)))).2),fun go=>?_,⟨k+1,h,rfl⟩,by simp only;omega⟩
   rw [show decide ((k:Int)<(l.length:Int))=true by simpa using h]
   simp only [cond_true]
   have hr:=il l[k] (List.getElem_mem h)
   rw [D4,Gi _ _ _ h,of_ok _ hr.1 hr.2]
   simp only [Bh]
   have e:sumL (l.take (k+1))=sumL (l.take k)+l[k]:=by
    rw [List.take_succ_eq_append_getElem h,sumL_app]
    simp [sumL]
   have far1:far (sumL (l.take k)):=far_sum _ (fun x hx=>il x (List.mem_of_mem_take hx)) (by simp;omega)
   have far2:far (sumL (l.take (k+1))):=far_sum _ (fun x hx=>il x (List.mem_of_mem_take hx)) (by simp;omega)
   rw [e] at far2 ⊢
   rw [show ((pair (sumL (l.take k))).1,(pair (sumL (l.take k))).2)=pair (sumL (l.take k)) from rfl,show ((pair l[k]).1,(pair l[k]).2)=pair l[k] from rfl,add_w _ _ far1 (by unfold far;omega) far2]
   simp only [Bh]
   rw [Fl]
   rfl
  ·left
   have:k=l.length:=by omega
   subst this
   refine ⟨_,fun go=>?_,rfl⟩
   rw [show decide ((l.length:Int)<(l.length:Int))=false by simp]
   rw [List.take_length]
   rfl
 obtain ⟨z,e,rfl⟩:=Gb (B:=fun go (x:Int×Int×Int)=>f143_l1 l go x.1 x.2.1 x.2.2) _ (fun x=>((l.length:Int)-x.1).toNat) _ H ((0:Int),(0:Int),(0:Int)) ⟨0,Nat.zero_le _,by simp [pair,sumL]⟩ (by simp;omega)
 rw [e]
 rfl
theorem single_ok (v:Int):f97 v 0=some (0,[],[v]):=by
 unfold f97
 rw [show ((0:Int) != 0)=false from rfl]
 simp only [cond_false]
 rw [K3,prd_nil,if_pos (by decide)]
 rfl
abbrev Nd:=Int×Int×Int×Int×(List Int)×(List Int)
def nd (l:List Nd) (i:Nat):Tn:=(rd (Ty.z (.p (.int .i64) (.p (.int .i64) (.p (.int .i64) (.p (.int .i64) (.p (.sl (.int .i64)) (.sl (.int .i64)))))))) l (i:Int)).2.2.2.2
theorem nd_app (l m:List Nd) (i:Nat) (h:i<l.length):nd (l++m) i=nd l i:=by
 unfold nd
 rw [Gi _ _ _ h,Gi _ _ _ (by simp;omega),List.getElem_append_left h]
theorem nd_last (l:List Nd) (n:Nd):nd (l++[n]) l.length=n.2.2.2.2:=by
 unfold nd
 rw [Gi _ _ _ (by simp)]
 simp
theorem push_ok (l:List Nd) (n:Nd) (h:l.length<512):f47 l n=some ((l.length:Int),l++[n]):=by
 unfold f47
 rw [D4 (by simp;omega)]
 simp only [Bh,List.length_append,List.length_cons,List.length_nil]
 rw [Fl]
 simp
theorem leaf_ok (l:List Nd) (a:Tn) (h:l.length<512) (hg:Ft a=true):f15 l a=some ((l.length:Int),0,l++[(1,-1,-1,0,a.1,a.2)]):=by
 obtain ⟨_,_,l1,l2⟩:=Fy hg
 unfold f15
 rw [show decide ((List.length l:Int)≥(512:Int))=false by simp;omega,show (a.1,a.2)=a from rfl,F4,hg]
 simp only [cond_false,Bh,Bool.not_true]
 rw [copy_t a (by omega) (by omega)]
 simp only [Bh]
 rw [push_ok _ _ h]
 rfl
end Go.Proofs.PlR
namespace Go.Proofs.Op
open Go.AM Go.Proofs.PlB Go.Proofs.PlW Go.Proofs.PlT Go.Proofs.PlS Go.Proofs.Sh Go.Proofs.Num Go.Proofs.Div
abbrev Tn:=List Int×List Int
abbrev InR (x:Int):Prop:=-9223372036854775808≤x∧x<9223372036854775808
theorem Jh (x:Int):InR (sat x):=PlR.sat_range x
theorem inI_tab {n:Nat} {g:Nat→Int} (h:∀ i,i<n→InR (g i)):inI (F8 n g):=PlR.tab_inI n g h
theorem G9 {l:List Int} (h:inI l) (i:Nat) (hi:i<l.length):InR (rd (0:Int) l (i:Int)):=inI_get h i hi
def Jz (f:Int→Int→Int) (a b:Tn):Int×Tn:=
 if Ft a=true∧Ft b=true then
  (if (jS a.1 b.1).1=0 then (0,(jS a.1 b.1).2,F8 (prd (jS a.1 b.1).2).toNat (fun i=>f (rd (0:Int) a.2 (spX a.1 (jS a.1 b.1).2 i)) (rd (0:Int) b.2 (spX b.1 (jS a.1 b.1).2 i)))) else ((jS a.1 b.1).1,[],[]))
 else (1,[],[])
theorem jS_zero {a b:List Int} (h:(jS a b).1=0):Joined a b (jS a b).2:=jS_joined (d:=(jS a b).2) (Prod.ext h rfl)
theorem addP (a b:Tn) (ia:inI a.2) (ib:inI b.2):f61 a b=some (Jz addV a b):=by
 unfold Jz
 by_cases hg:Ft a=true∧Ft b=true
 ·rw [if_pos hg]
  by_cases hj:(jS a.1 b.1).1=0
  ·rw [if_pos hj]
   exact add_of a b _ ia ib hg.1 hg.2 (by rw [joinP,← hj]) (jS_zero hj)
  ·rw [if_neg hj]
   unfold f61 f111_112 f111_112_j2 f111_112_j3
   rw [show ((a.1,a.2):Tn)=a from rfl,show ((b.1,b.2):Tn)=b from rfl,F4,F4,hg.1,hg.2,joinP]
   simp only [Bh,Bool.not_true,cond_false,Fq]
   rw [nT hj];rfl
 ·rw [if_neg hg]
  unfold f61 f111_112 f111_112_j2 f111_112_j3
  rw [show ((a.1,a.2):Tn)=a from rfl,show ((b.1,b.2):Tn)=b from rfl,F4,F4]
  cases h1:Ft a <;> cases h2:Ft b <;> simp_all <;> rfl
theorem subP (a b:Tn) (ia:inI a.2) (ib:inI b.2):f93 a b=some (Jz subV a b):=by
 unfold Jz
 by_cases hg:Ft a=true∧Ft b=true
 ·rw [if_pos hg]
  by_cases hj:(jS a.1 b.1).1=0
  ·rw [if_pos hj]
   exact sub_of a b _ ia ib hg.1 hg.2 (by rw [joinP,← hj]) (jS_zero hj)
  ·rw [if_neg hj]
   unfold f93 f111_139 f111_139_j2 f111_139_j3
   rw [show ((a.1,a.2):Tn)=a from rfl,show ((b.1,b.2):Tn)=b from rfl,F4,F4,hg.1,hg.2,joinP]
   simp only [Bh,Bool.not_true,cond_false,Fq]
   rw [nT hj];rfl
 ·rw [if_neg hg]
  unfold f93 f111_139 f111_139_j2 f111_139_j3
  rw [show ((a.1,a.2):Tn)=a from rfl,show ((b.1,b.2):Tn)=b from rfl,F4,F4]
  cases h1:Ft a <;> cases h2:Ft b <;> simp_all <;> rfl
theorem mulP (a b:Tn) (ia:inI a.2) (ib:inI b.2):f70 a b=some (Jz Li a b):=by
 unfold Jz
 by_cases hg:Ft a=true∧Ft b=true
 ·rw [if_pos hg]
  by_cases hj:(jS a.1 b.1).1=0
  ·rw [if_pos hj]
   exact mul_of a b _ ia ib hg.1 hg.2 (by rw [joinP,← hj]) (jS_zero hj)
  ·rw [if_neg hj]
   unfold f70 f111_116 f111_116_j2 f111_116_j3
   rw [show ((a.1,a.2):Tn)=a from rfl,show ((b.1,b.2):Tn)=b from rfl,F4,F4,hg.1,hg.2,joinP]
   simp only [Bh,Bool.not_true,cond_false,Fq]
   rw [nT hj];rfl
 ·rw [if_neg hg]
  unfold f70 f111_116 f111_116_j2 f111_116_j3
  rw [show ((a.1,a.2):Tn)=a from rfl,show ((b.1,b.2):Tn)=b from rfl,F4,F4]
  cases h1:Ft a <;> cases h2:Ft b <;> simp_all <;> rfl
theorem eachG (op:Int) (f:Int→Int→Int) (F:Int→Int→Option Int) (hF:∀ x y,InR x→InR y→F x y=some (f x y))
  (hl:∀ (a b:Tn) (r11:Int×List Int) (go:(Int×List Int)→Option (List Int)) (i:Int) (l6:List Int),f25_l4 op a b r11 go i l6 =
   bif (decide (i<(List.length l6:Int))) then
    Ey (f63 a.1 r11.2 i) fun r18=>Ey (f63 b.1 r11.2 i) fun r19=>
    E9 (0≤r18.1∧r18.1<(List.length a.2:Int))<|E9 (0≤r19.1∧r19.1<(List.length b.2:Int))<|
    Ey (F (rd (0:Int) a.2 r18.1) (rd (0:Int) b.2 r19.1)) fun q=>E9 (0≤i∧i<(List.length l6:Int))<|
    go ((IntKind.i64.wrap (i+(1:Int))),(List.set l6 (Int.toNat i) q))
   else some l6) (a b:Tn) (ia:inI a.2) (ib:inI b.2):f25 op a b=some (Jz f a b):=by
 unfold Jz f25 f25_j2 f25_j3
 rw [show ((a.1,a.2):Tn)=a from rfl,show ((b.1,b.2):Tn)=b from rfl,isR,isR]
 by_cases hg:Ft a=true∧Ft b=true
 ·rw [if_pos hg,hg.1,hg.2,joinR]
  simp only [Bh,Bool.not_true,cond_false,Fq]
  by_cases hj:(jS a.1 b.1).1=0
  ·have J:=jS_zero hj
   have hd:jS a.1 b.1=(0,(jS a.1 b.1).2):=Prod.ext hj rfl
   generalize (jS a.1 b.1).2=d at hd J
   simp only [hd]
   rw [if_pos trivial,nF rfl]
   simp only [cond_false]
   have hr:=F2 d
   have hp:=J.pd
   have ga:=(Fy hg.1).2.1
   have gb:=(Fy hg.2).2.1
   rw [newR d 0 J.pd,Bh]
   obtain ⟨N,hN⟩:∃ N:Nat,prd d=(N:Int):=⟨(prd d).toNat,by omega⟩
   rw [hN,Int.toNat_natCast]
   simp only
   rw [Gf N (fun i=>f (rd (0:Int) a.2 (spX a.1 d i)) (rd (0:Int) b.2 (spX b.1 d i)))]
   have:=F3 (B:=fun go (x:Int×List Int)=>f25_l4 op a b (0,d) go x.1 x.2) (fun k=>((k:Int),J8 N k (fun i=>f (rd (0:Int) a.2 (spX a.1 d i)) (rd (0:Int) b.2 (spX b.1 d i))))) N
    (F8 N (fun i=>f (rd (0:Int) a.2 (spX a.1 d i)) (rd (0:Int) b.2 (spX b.1 d i)))) ?_ ?_ (by omega)
   ·rw [show ((0:Nat):Int)=0 from rfl] at this
    rw [this];rfl
   ·intro k hk go
    simp only [hl,F5]
    obtain ⟨x0,x1⟩:=Jg J.fa k (by omega)
    obtain ⟨y0,y1⟩:=Jg J.fb k (by omega)
    have fa:=fromR J.fa k (by omega) (by omega)
    have fb:=fromR J.fb k (by omega) (by omega)
    rw [show accS a.1 d (k:Int) a.1.length=spX a.1 d k from rfl] at fa
    rw [show accS b.1 d (k:Int) b.1.length=spX b.1 d k from rfl] at fb
    rw [dT,cond_true,fa,Bh,fb,Bh]
    simp only
    obtain ⟨xn,hxn⟩:=Int.eq_ofNat_of_zero_le x0
    obtain ⟨yn,hyn⟩:=Int.eq_ofNat_of_zero_le y0
    have qa:=G9 ia xn (by omega)
    have qb:=G9 ib yn (by omega)
    rw [← hxn] at qa
    rw [← hyn] at qb
    rw [D4,D4,hF _ _ qa qb,Bh,D4,Fl,Int.toNat_natCast,Gu N k _ _ hk rfl]
    rfl
   ·intro go
    simp only [hl,F5]
    rw [dF,cond_false,Gg]
  ·rw [if_neg hj,nT hj];rfl
 ·rw [if_neg hg]
  cases h1:Ft a <;> cases h2:Ft b <;> simp_all <;> rfl
theorem addR (a b:Tn) (ia:inI a.2) (ib:inI b.2):f25 0 a b=some (Jz addV a b):=
 eachG 0 addV f64 (fun x y hx hy=>rAdd x y hx.1 hx.2 hy.1 hy.2) (fun a b r go i l=>rfl) a b ia ib
theorem subR (a b:Tn) (ia:inI a.2) (ib:inI b.2):f25 1 a b=some (Jz subV a b):=
 eachG 1 subV f65 (fun x y hx hy=>rSub x y hx.1 hx.2 hy.1 hy.2) (fun a b r go i l=>rfl) a b ia ib
theorem mulR (a b:Tn) (ia:inI a.2) (ib:inI b.2):f25 2 a b=some (Jz Li a b):=
 eachG 2 Li f66 (fun x y hx hy=>rMul x y hx.1 hx.2 hy.1 hy.2) (fun a b r go i l=>rfl) a b ia ib
def scaleS (a:Tn) (k:Int):Int×Tn:=if Ft a=true then (0,a.1,F8 a.2.length (fun i=>Li (rd (0:Int) a.2 i) k)) else (1,[],[])
theorem scaleP (a:Tn) (k:Int) (ia:inI a.2) (hk:InR k):f72 a k=some (scaleS a k):=scale_ok a k ia hk.1 hk.2
theorem scaleR (a:Tn) (k:Int) (ia:inI a.2) (hk:InR k):f34 a k=some (scaleS a k):=by
 unfold f34 scaleS
 rw [show ((a.1,a.2):Tn)=a from rfl,isR,Bh]
 by_cases hg:Ft a=true
 ·obtain ⟨hp,hl,_,l2⟩:=Fy hg
  rw [if_pos hg,hg,Bool.not_true,cond_false,newR a.1 0 hp,Bh]
  rw [show (prd a.1).toNat=a.2.length by omega]
  simp only
  rw [Gf _ (fun i=>Li (rd (0:Int) a.2 i) k)]
  have:=F3 (B:=fun go (x:Int×List Int)=>f34_l1 a k go x.1 x.2) (fun j=>((j:Int),J8 a.2.length j (fun i=>Li (rd (0:Int) a.2 i) k))) a.2.length (F8 a.2.length (fun i=>Li (rd (0:Int) a.2 i) k)) ?_ ?_ (by omega)
  ·rw [show ((0:Nat):Int)=0 from rfl] at this
   rw [this];rfl
  ·intro j hj go
   unfold f34_l1
   simp only [F5]
   have q:=G9 ia j hj
   rw [dT,cond_true,D4,rMul _ _ q.1 q.2 hk.1 hk.2,Bh,D4,Fl,Int.toNat_natCast,Gu _ j (fun i=>Li (rd (0:Int) a.2 i) k) (sat (rhe (rd (0:Int) a.2 (j:Int)*k))) hj rfl]
   rfl
  ·intro go
   unfold f34_l1
   simp only [F5]
   rw [dF,cond_false,Gg]
 ·rw [if_neg hg,show Ft a=false by simpa using hg];rfl
theorem totalR (a:Tn) (ia:inI a.2) (hl:a.2.length≤4096):∃ z,f145 a=some z∧Nm (PlR.sumL a.2) z:=by
 unfold f145
 have key:=Kv (B:=fun go (x:Int×Bool×Int×Int×Int×Int)=>f145_l1 a go x.1 x.2.1 x.2.2.1 x.2.2.2.1 x.2.2.2.2.1 x.2.2.2.2.2)
  (fun k x=>x.1=(k:Int)∧Nm (PlR.sumL (a.2.take k)) x.2) (fun z=>Nm (PlR.sumL a.2) z) a.2.length ((0:Int),false,(0:Int),(0:Int),(0:Int),(0:Int)) ⟨rfl,nm_zero⟩ ?_ ?_ (by omega)
 ·obtain ⟨z,e,hz⟩:=key
  rw [e];exact ⟨_,rfl,hz⟩
 ·rintro k hk ⟨_,x⟩ ⟨rfl,hx⟩
  simp only at hx ⊢
  have q:=G9 ia k hk
  obtain ⟨y,ey,hy⟩:=from_ok _ q.1 q.2
  have hs:=PlR.sumL_bound 9223372036854775808 (by decide) (a.2.take k) (fun v hv=>by have:=ia v (List.mem_of_mem_take hv);omega)
  have hlt:(a.2.take k).length≤4096:=by rw [List.length_take];omega
  obtain ⟨z,ez,hz⟩:=plus_nm hx hy (by unfold Sm;omega) (by unfold Sm;omega)
  refine ⟨(((k+1:Nat):Int),z),fun go=>?_,rfl,?_⟩
  ·unfold f145_l1
   rw [dT,cond_true,D4,ey,Bh,ez,Bh,Fl]
   rfl
  ·have e:PlR.sumL (a.2.take (k+1))=PlR.sumL (a.2.take k)+rd (0:Int) a.2 (k:Int):=by
    rw [List.take_succ_eq_append_getElem hk,PlR.sumL_app,Gi _ _ _ hk]
    simp [PlR.sumL]
   simp only
   rw [e];exact hz
 ·rintro ⟨_,x⟩ ⟨rfl,hx⟩
  refine ⟨x,fun go=>?_,by simpa using hx⟩
  unfold f145_l1
  rw [dF (by simp only;omega)];rfl
theorem sum_sm (l:List Int) (il:inI l) (hl:l.length≤4096) : -37778931862957161709568≤PlR.sumL l∧PlR.sumL l≤37778931862957161709568:=by
 have:=PlR.sumL_bound 9223372036854775808 (by decide) l (fun v hv=>by have:=il v hv;omega)
 omega
theorem allR (a:Tn) (ia:inI a.2) (hl:a.2.length≤4096):f105 a=some (sat (PlR.sumL a.2)):=by
 unfold f105
 obtain ⟨z,e,hz⟩:=totalR a ia hl
 have:=sum_sm a.2 ia hl
 rw [show ((a.1,a.2):Tn)=a from rfl,e,Bh,Lk hz (by unfold Sm;omega)];rfl
theorem allP (a:Tn) (ia:inI a.2) (hg:Ft a=true):f98 a=some (sat (PlR.sumL a.2),0):=by
 obtain ⟨_,_,_,hl⟩:=Fy hg
 unfold f98
 rw [show ((a.1,a.2):Tn)=a from rfl,F4,hg,Bh,Bool.not_true,cond_false,PlR.total_ok a.2 ia hl,Bh]
 rw [show ((PlV.pair (PlR.sumL a.2)).1,(PlV.pair (PlR.sumL a.2)).2)=PlV.pair (PlR.sumL a.2) from rfl,PlV.fix_ok _ (PlR.far_sum a.2 ia hl)]
 rfl
theorem meanR (a:Tn) (ia:inI a.2) (h1:1≤a.2.length) (hl:a.2.length≤4096):f106 a=some (sat (rdI (PlR.sumL a.2) a.2.length)):=by
 unfold f106
 obtain ⟨z,e,hz⟩:=totalR a ia hl
 have:=sum_sm a.2 ia hl
 obtain ⟨y,ey,hy,hs⟩:=divided_nm hz (by omega) (a.2.length:Int) (by omega) (by omega) (by omega)
 rw [show ((a.1,a.2):Tn)=a from rfl,e,Bh,ey,Bh,Lk hy hs];rfl
theorem meanP (a:Tn) (ia:inI a.2) (hg:Ft a=true):f99 a=some (sat (rdI (PlR.sumL a.2) a.2.length),0):=by
 obtain ⟨hp,hl1,_,hl⟩:=Fy hg
 have:=sum_sm a.2 ia hl
 unfold f99
 rw [show ((a.1,a.2):Tn)=a from rfl,F4,hg,Bh,Bool.not_true,cond_false,PlR.total_ok a.2 ia hl,Bh]
 rw [show ((PlV.pair (PlR.sumL a.2)).1,(PlV.pair (PlR.sumL a.2)).2)=PlV.pair (PlR.sumL a.2) from rfl,over_ok _ _ (by omega) (by omega) (by omega) (by omega) (by omega)]
 rfl
def bendV (kind x:Int):Int:=
 if kind=1 then (if x<0 then 0 else x)
 else if kind=2 then (if x>0 then x else sat (rdI (x*4294967296) 34359738368))
 else if kind=3 then (if x>4294967296 then 4294967296 else if x < -4294967296 then -4294967296 else x)
 else if kind=4 then (if x<0 then sat (-x) else x)
 else (if sat (sat (rdI (x*4294967296) 8589934592)+2147483648)<0 then 0 else if sat (sat (rdI (x*4294967296) 8589934592)+2147483648)>4294967296 then 4294967296 else sat (sat (rdI (x*4294967296) 8589934592)+2147483648))
theorem bendV_in (kind x:Int) (hx:InR x):InR (bendV kind x):=by
 have h1:=Jh (rdI (x*4294967296) 34359738368)
 have h2:=Jh (-x)
 have h3:=Jh (sat (rdI (x*4294967296) 8589934592)+2147483648)
 unfold bendV InR at *
 split
 ·split <;> omega
 ·split
  ·split <;> omega
  ·split
   ·split <;> (try split) <;> omega
   ·split
    ·split <;> omega
    ·split <;> (try split) <;> omega
theorem bendR (kind x:Int) (hx:InR x):f146 kind x=some (bendV kind x):=by
 have s1:=Jh (rdI (x*4294967296) 8589934592)
 unfold f146 bendV
 by_cases k1:kind=1
 ·rw [bT k1,if_pos k1,cond_true]
  by_cases h:x<0
  ·rw [dT h,if_pos h];rfl
  ·rw [dF h,if_neg h];rfl
 rw [bF k1,if_neg k1,cond_false]
 by_cases k2:kind=2
 ·rw [bT k2,if_pos k2,cond_true]
  by_cases h:x>0
  ·rw [dT h,if_pos h];rfl
  ·rw [dF h,if_neg h,cond_false,rOf8,Bh,rDiv x _ hx.1 hx.2 (by decide) (by decide) (by decide)];rfl
 rw [bF k2,if_neg k2,cond_false]
 by_cases k3:kind=3
 ·rw [bT k3,if_pos k3,cond_true]
  by_cases h:x>4294967296
  ·rw [dT h,if_pos h];rfl
  ·rw [dF h,if_neg h,cond_false]
   by_cases h:x < -4294967296
   ·rw [dT h,if_pos h];rfl
   ·rw [dF h,if_neg h];rfl
 rw [bF k3,if_neg k3,cond_false]
 by_cases k4:kind=4
 ·rw [bT k4,if_pos k4,cond_true]
  by_cases h:x<0
  ·rw [dT h,if_pos h,cond_true,rNeg x hx.1 hx.2];rfl
  ·rw [dF h,if_neg h];rfl
 rw [bF k4,if_neg k4,cond_false,rOf2,Bh,rDiv x _ hx.1 hx.2 (by decide) (by decide) (by decide),Bh,rAdd _ _ s1.1 s1.2 (by decide) (by decide),Bh]
 generalize sat (sat (rdI (x*4294967296) 8589934592)+2147483648)=y
 by_cases h:y<0
 ·rw [dT h,if_pos h];rfl
 ·rw [dF h,if_neg h,cond_false]
  by_cases h:y>4294967296
  ·rw [dT h,if_pos h];rfl
  ·rw [dF h,if_neg h];rfl
theorem pOf8:f159 8=some 34359738368:=by kernel_rfl
theorem pOf2:f159 2=some 8589934592:=by kernel_rfl
theorem negP (x:Int) (hx:InR x) (h:x<0):f161 x=some (sat (-x)):=by
 unfold InR at hx
 unfold f161 sat
 by_cases c:x=-9223372036854775808
 ·rw [bT c,iPo];rfl
 ·rw [bF c,iNo,iNo,cond_false,Fl]
  congr 1;omega
theorem withinP (y lo hi:Int) (h:lo≤hi):f160 y lo hi=some (if y>hi then hi else if y<lo then lo else y):=by
 unfold f160
 congr 1
 split <;> (try split) <;> (try split) <;> (try split) <;> omega
theorem bendP (kind x:Int) (k0:1≤kind) (k5:kind≤5) (hx:InR x):f144 kind x=some (bendV kind x,0):=by
 have s1:=Jh (rdI (x*4294967296) 8589934592)
 unfold f144 bendV
 by_cases k1:kind=1
 ·rw [bT k1,if_pos k1,cond_true]
 rw [bF k1,if_neg k1,cond_false]
 by_cases k2:kind=2
 ·rw [bT k2,if_pos k2,cond_true]
  by_cases h:x>0
  ·rw [dT h,if_pos h];rfl
  ·rw [dF h,if_neg h,cond_false,pOf8,Bh,fdiv_ok x _ hx.1 hx.2 (by decide) (by decide) (by decide)];rfl
 rw [bF k2,if_neg k2,cond_false]
 by_cases k3:kind=3
 ·rw [bT k3,if_pos k3,cond_true,withinP _ _ _ (by decide)];rfl
 rw [bF k3,if_neg k3,cond_false]
 by_cases k4:kind=4
 ·rw [bT k4,if_pos k4,cond_true]
  by_cases h:x<0
  ·rw [dT h,if_pos h,cond_true,negP x hx h];rfl
  ·rw [dF h,if_neg h];rfl
 rw [bF k4,if_neg k4,cond_false,bT (by omega),cond_true,pOf2,Bh,fdiv_ok x _ hx.1 hx.2 (by decide) (by decide) (by decide),Bh,addF_ok _ _ s1.1 s1.2 (by decide) (by decide),Bh,withinP _ _ _ (by decide),Bh]
 unfold addV
 generalize sat (sat (rdI (x*4294967296) 8589934592)+2147483648)=y
 congr 2
 split <;> (try split) <;> (try split) <;> omega
def bentS (kind:Int) (t:Tn):Int×Tn:=if 1≤kind∧kind≤5∧Ft t=true then (0,t.1,F8 t.2.length (fun i=>bendV kind (rd (0:Int) t.2 i))) else (1,[],[])
theorem bentR (kind:Int) (t:Tn) (it:inI t.2):f107 kind t=some (bentS kind t):=by
 unfold f107 bentS f107_j2 f107_j3
 rw [show ((t.1,t.2):Tn)=t from rfl,isR]
 by_cases h:1≤kind∧kind≤5∧Ft t=true
 ·obtain ⟨hp,hl,_,l2⟩:=Fy h.2.2
  rw [if_pos h,dF,cond_false,dF,cond_false,h.2.2]
  simp only [Bh,Bool.not_true,cond_false,Fq]
  rw [newR t.1 0 hp,Bh,show (prd t.1).toNat=t.2.length by omega]
  simp only
  rw [Gf _ (fun i=>bendV kind (rd (0:Int) t.2 i))]
  have:=F3 (B:=fun go (x:Int×List Int)=>f107_l4 kind t go x.1 x.2) (fun j=>((j:Int),J8 t.2.length j (fun i=>bendV kind (rd (0:Int) t.2 i)))) t.2.length (F8 t.2.length (fun i=>bendV kind (rd (0:Int) t.2 i))) ?_ ?_ (by omega)
  ·rw [show ((0:Nat):Int)=0 from rfl] at this
   rw [this];rfl
  ·intro j hj go
   unfold f107_l4
   simp only [F5]
   rw [dT,cond_true,D4,bendR _ _ (G9 it j hj),Bh,D4,Fl,Int.toNat_natCast,Gu _ j _ _ hj rfl]
   rfl
  ·intro go
   unfold f107_l4
   simp only [F5]
   rw [dF,cond_false,Gg]
 ·rw [if_neg h]
  by_cases h1:kind<1
  ·rw [dT h1];rfl
  ·rw [dF h1,cond_false]
   by_cases h2:kind>5
   ·rw [dT h2];rfl
   ·rw [dF h2,cond_false,show Ft t=false by cases ht:Ft t;rfl;exact absurd ⟨by omega,by omega,ht⟩ h];rfl
theorem bentP (kind:Int) (t:Tn) (it:inI t.2):f100 kind t=some (bentS kind t):=by
 unfold f100 bentS f100_j2 f100_j3 f129
 rw [show ((t.1,t.2):Tn)=t from rfl,F4]
 by_cases h:1≤kind∧kind≤5∧Ft t=true
 ·obtain ⟨hp,hl,l1,l2⟩:=Fy h.2.2
  rw [if_pos h,dT,cond_true,Bh,dT (show kind≤5 by omega),h.2.2]
  simp only [Bh,Bool.not_true,cond_false,Fq]
  rw [copy_t t (by omega) (by omega),Bh]
  have:=F3 (B:=fun go (x:Int×List Int)=>f100_l4 kind t go x.1 x.2) (fun j=>((j:Int),F8 t.2.length (fun i=>if i<j then bendV kind (rd (0:Int) t.2 i) else rd (0:Int) t.2 i))) t.2.length (F8 t.2.length (fun i=>bendV kind (rd (0:Int) t.2 i))) ?_ ?_ (by omega)
  ·have e0:F8 t.2.length (fun i=>if i<0 then bendV kind (rd (0:Int) t.2 i) else rd (0:Int) t.2 i)=t.2:=by
    apply List.ext_getElem (Ga _ _)
    intro i h1 h2
    rw [tab_get,iNo,Gi _ _ _ h2]
   rw [show ((0:Nat):Int)=0 from rfl,e0] at this
   rw [this];rfl
  ·intro j hj go
   unfold f100_l4
   simp only [Ga]
   rw [dT,cond_true,D4,bendP _ _ h.1 h.2.1 (G9 it j hj),Bh,D4,Fl,Int.toNat_natCast,J4]
   congr 1
   refine Prod.ext rfl (Gd _ _ _ (fun i hi=>?_))
   by_cases hik:i=j
   ·rw [if_pos hik,iPo,hik]
   ·rw [if_neg hik]
    by_cases h2:i<j
    ·rw [if_pos h2,iPo]
    ·rw [if_neg h2,iNo]
  ·intro go
   unfold f100_l4
   simp only
   rw [dF,cond_false]
   congr 1
   exact Gd _ _ _ (fun i hi=>by rw [if_pos hi])
 ·rw [if_neg h]
  by_cases h1:kind≥1
  ·rw [dT h1,cond_true,Bh]
   by_cases h2:kind≤5
   ·rw [dT h2,Bool.not_true,cond_false,Bh,show Ft t=false by cases ht:Ft t;rfl;exact absurd ⟨by omega,by omega,ht⟩ h];rfl
   ·rw [dF h2];rfl
  ·rw [dF h1];rfl
def reshS (a:Tn) (d:List Int):Int×Tn:=if Ft a=true∧0<prd d then (if prd d=a.2.length then (0,d,a.2) else (4,[],[])) else (1,[],[])
theorem reshR (a:Tn) (d:List Int):f46 a d=some (reshS a d):=by
 unfold f46 reshS f46_j2 f46_j3
 rw [show ((a.1,a.2):Tn)=a from rfl,isR,goodR,sizeR]
 by_cases h:Ft a=true∧0<prd d
 ·obtain ⟨_,_,_,l2⟩:=Fy h.1
  have:=Gx h.2
  rw [if_pos h,h.1,dT (show prd d>0 from h.2)]
  simp only [Bh,Bool.not_true,cond_false,Fq]
  by_cases h2:prd d=a.2.length
  ·rw [if_pos h2,nF h2,cond_false,D4 (by simp;omega),D4 (by simp;omega)];rfl
  ·rw [if_neg h2,nT h2];rfl
 ·rw [if_neg h]
  cases h1:Ft a
  ·rfl
  ·rw [dF (fun h3=>h ⟨h1,h3⟩)];rfl
theorem reshP (a:Tn) (d:List Int):f81 a d=some (reshS a d):=by
 unfold f81 reshS f81_j2 f81_j3
 rw [show ((a.1,a.2):Tn)=a from rfl,F4,Gp,PlB.size_ok]
 by_cases h:Ft a=true∧0<prd d
 ·obtain ⟨_,_,_,l2⟩:=Fy h.1
  have:=Gx h.2
  rw [if_pos h,h.1,dT (show prd d>0 from h.2)]
  simp only [Bh,Bool.not_true,cond_false]
  by_cases h2:prd d=a.2.length
  ·rw [if_pos h2,nF h2,cond_false,Bh,Fq,clone_d d (by omega),Bh,clone_v a.2 (by omega)];rfl
  ·rw [if_neg h2,nT h2];rfl
 ·rw [if_neg h]
  cases h1:Ft a
  ·rfl
  ·rw [dF (fun h3=>h ⟨h1,h3⟩)];rfl
theorem sameP (a b:List Int) (h:a.length<4611686018427387904):f29 a b=some (decide (a=b)):=by
 unfold f29
 rw [show f68 a b=f26 a b from rfl,sameR a b h];rfl
def Ka (sp:Nat→Int) (V:List Int) (N:Nat):Nat→List Int
 | 0=>List.replicate N 0
 | k+1=>(Ka sp V N k).set (sp k).toNat (addV (rd (0:Int) (Ka sp V N k) (sp k)) (rd (0:Int) V (k:Int)))
theorem fold_len (sp:Nat→Int) (V:List Int) (N:Nat):∀ k,(Ka sp V N k).length=N
 | 0=>by simp [Ka]
 | k+1=>by simp only [Ka,List.length_set];exact fold_len sp V N k
theorem inI_set {l:List Int} (h:inI l) (i:Nat) (v:Int) (hv:InR v):inI (l.set i v):=fun x hx=>by
 rcases List.mem_or_eq_of_mem_set hx with h1 | h1
 ·exact h x h1
 ·rw [h1];exact hv
theorem inI_rep (n:Nat) (v:Int) (hv:InR v):inI (List.replicate n v):=fun x hx=>by
 rw [(List.mem_replicate.1 hx).2];exact hv
theorem fold_inI (sp:Nat→Int) (V:List Int) (N:Nat):∀ k,inI (Ka sp V N k)
 | 0=>inI_rep _ _ (by decide)
 | k+1=>by simp only [Ka];exact inI_set (fold_inI sp V N k) _ _ (Jh _)
def foldS (a:Tn) (d:List Int):Int×Tn:=
 if Ft a=true∧0<prd d then (if jS d a.1=(0,a.1) then (0,d,Ka (spX d a.1) a.2 (prd d).toNat a.2.length) else (4,[],[])) else (1,[],[])
theorem fold_j (r:Int×List Int) (d:List Int) (h:r.2.length<4611686018427387904) :
  (bif (r.1 != (0:Int)) then some true else Ey (some (decide (r.2=d))) fun r18=>some (!r18))=some (!decide (r=(0,d))):=by
 by_cases h1:r.1=0
 ·rw [nF h1,cond_false,Bh]
  by_cases h2:r.2=d
  ·rw [dT h2,dT (show r=(0,d) from Prod.ext h1 h2)]
  ·rw [dF h2,dF (show ¬r=(0,d) from fun h=>h2 (by rw [h]))]
 ·rw [nT h1,dF (show ¬r=(0,d) from fun h=>h1 (by rw [h]))];rfl
theorem jS_len (a b:List Int) (ha:a.length≤4) (hb:b.length≤4):(jS a b).2.length≤4:=by
 have h1:Kw a b≤4:=by unfold Kw;split <;> omega
 have h2:(jL a b).length≤4:=by unfold jL;rw [Ga];exact h1
 unfold jS
 split
 ·cases anyB (Kw a b) (jBad a b)
  ·simp only [cond_false];split
   ·exact h2
   ·exact Nat.zero_le _
  ·exact Nat.zero_le _
 ·exact Nat.zero_le _
theorem foldP (a:Tn) (d:List Int) (ia:inI a.2):f69 a d=some (foldS a d):=by
 unfold f69 foldS f69_j2 f69_j3
 rw [show ((a.1,a.2):Tn)=a from rfl,F4,Gp]
 by_cases h:Ft a=true∧0<prd d
 ·obtain ⟨hp,hl,l1,l2⟩:=Fy h.1
  have ld:=Gx h.2
  have hr:=F2 d
  rw [if_pos h,h.1,dT (show prd d>0 from h.2),joinP]
  simp only [Bh,Bool.not_true,cond_false,Fq]
  have hj:f69_j6 a (jS d a.1)=some (!decide (jS d a.1=(0,a.1))):=by
   unfold f69_j6
   have:=jS_len d a.1 ld l1
   rw [sameP _ _ (by omega)]
   exact fold_j _ _ (by omega)
  unfold f69_j5
  rw [hj,Bh]
  by_cases h2:jS d a.1=(0,a.1)
  ·have F:=jS_fits.1 h2
   rw [if_pos h2,dT h2,Bool.not_true,cond_false,Bh,Fq,K3,if_pos h.2,Bh,Ki F,Bh]
   simp only
   rw [show (prd a.1).toNat=a.2.length by omega]
   have:=F3 (B:=fun go (x:Int×List Int)=>f69_l7 a (F8 a.2.length (spX d a.1)) go x.1 x.2) (fun k=>((k:Int),Ka (spX d a.1) a.2 (prd d).toNat k)) a.2.length (Ka (spX d a.1) a.2 (prd d).toNat a.2.length) ?_ ?_ (by omega)
   ·rw [show ((0:Nat):Int)=0 from rfl] at this
    rw [show List.replicate (prd d).toNat 0=Ka (spX d a.1) a.2 (prd d).toNat 0 from rfl,this];rfl
   ·intro k hk go
    unfold f69_l7
    simp only [fold_len,Ga]
    obtain ⟨s0,s1⟩:=Jg F k (by omega)
    obtain ⟨sn,hsn⟩:=Int.eq_ofNat_of_zero_le s0
    have q1:=G9 (fold_inI (spX d a.1) a.2 (prd d).toNat k) sn (by rw [fold_len];omega)
    rw [← hsn] at q1
    have q2:=G9 ia k hk
    rw [dT,cond_true,Kj _ _ _ _ hk,D4,D4,D4,D4,addF_ok _ _ q1.1 q1.2 q2.1 q2.2,Bh,D4,Fl]
    rfl
   ·intro go
    unfold f69_l7
    simp only
    rw [dF,cond_false]
  ·rw [if_neg h2,dF h2];rfl
 ·rw [if_neg h]
  cases h1:Ft a
  ·rfl
  ·rw [dF (fun h3=>h ⟨h1,h3⟩)];rfl
theorem foldR (a:Tn) (d:List Int) (ia:inI a.2):f83 a d=some (foldS a d):=by
 unfold f83 foldS f83_j2 f83_j3
 rw [show ((a.1,a.2):Tn)=a from rfl,isR,goodR]
 by_cases h:Ft a=true∧0<prd d
 ·obtain ⟨hp,hl,l1,l2⟩:=Fy h.1
  have ld:=Gx h.2
  have hr:=F2 d
  rw [if_pos h,h.1,dT (show prd d>0 from h.2),joinR]
  simp only [Bh,Bool.not_true,cond_false,Fq]
  have hj:f83_j6 a (jS d a.1)=some (!decide (jS d a.1=(0,a.1))):=by
   unfold f83_j6
   have:=jS_len d a.1 ld l1
   rw [sameR _ _ (by omega)]
   exact fold_j _ _ (by omega)
  unfold f83_j5
  rw [hj,Bh]
  by_cases h2:jS d a.1=(0,a.1)
  ·have F:=jS_fits.1 h2
   rw [if_pos h2,dT h2,Bool.not_true,cond_false,Bh,Fq,newR d 0 h.2,Bh]
   simp only
   have:=F3 (B:=fun go (x:Int×List Int)=>f83_l7 a d go x.1 x.2) (fun k=>((k:Int),Ka (spX d a.1) a.2 (prd d).toNat k)) a.2.length (Ka (spX d a.1) a.2 (prd d).toNat a.2.length) ?_ ?_ (by omega)
   ·rw [show ((0:Nat):Int)=0 from rfl] at this
    rw [show List.replicate (prd d).toNat 0=Ka (spX d a.1) a.2 (prd d).toNat 0 from rfl,this];rfl
   ·intro k hk go
    unfold f83_l7
    simp only [fold_len]
    obtain ⟨s0,s1⟩:=Jg F k (by omega)
    obtain ⟨sn,hsn⟩:=Int.eq_ofNat_of_zero_le s0
    have q1:=G9 (fold_inI (spX d a.1) a.2 (prd d).toNat k) sn (by rw [fold_len];omega)
    rw [← hsn] at q1
    have q2:=G9 ia k hk
    have ef:=fromR F k (by omega) (by omega)
    rw [show accS d a.1 (k:Int) d.length=spX d a.1 k from rfl] at ef
    rw [dT,cond_true,ef,Bh]
    simp only
    rw [D4,D4,rAdd _ _ q1.1 q1.2 q2.1 q2.2,Bh,D4,Fl]
    rfl
   ·intro go
    unfold f83_l7
    simp only
    rw [dF,cond_false]
  ·rw [if_neg h2,dF h2];rfl
 ·rw [if_neg h]
  cases h1:Ft a
  ·rfl
  ·rw [dF (fun h3=>h ⟨h1,h3⟩)];rfl
def J9 (kind x:Int):Int:=
 if kind=1 then (if x>0 then 4294967296 else 0)
 else if kind=2 then (if x>0 then 4294967296 else 536870912)
 else if kind=3 then (if x > -4294967296∧x<4294967296 then 4294967296 else 0)
 else if kind=4 then (if x>0 then 4294967296 else if x<0 then -4294967296 else 0)
 else (if x > -4294967296∧x<4294967296 then 2147483648 else 0)
theorem slope_in (kind x:Int):InR (J9 kind x):=by
 unfold J9 InR
 repeat' split
 all_goals omega
theorem oneP (b:Bool) (x y:Int):f155 b x y=some (if b=true then x else y):=by cases b <;> rfl
theorem slopeP (kind x:Int) (k0:1≤kind) (k5:kind≤5):f130 kind x=some (J9 kind x,0):=by
 unfold f130 J9
 have hj:f130_j1 x=some (decide (x > -4294967296∧x<4294967296)):=by
  unfold f130_j1
  by_cases h:x > -4294967296
  ·rw [dT h,cond_true];congr 1;rw [decide_eq_decide];omega
  ·rw [dF h,dF (show ¬(x > -4294967296∧x<4294967296) from fun hh=>h hh.1)];rfl
 rw [hj]
 simp only [Bh,oneP,decide_eq_true_eq]
 by_cases k1:kind=1
 ·rw [bT k1,if_pos k1];rfl
 rw [bF k1,if_neg k1,cond_false]
 by_cases k2:kind=2
 ·rw [bT k2,if_pos k2];rfl
 rw [bF k2,if_neg k2,cond_false]
 by_cases k3:kind=3
 ·rw [bT k3,if_pos k3];rfl
 rw [bF k3,if_neg k3,cond_false]
 by_cases k4:kind=4
 ·rw [bT k4,if_pos k4,cond_true]
  unfold f156
  by_cases h:x<0
  ·rw [dT h,iNo,if_pos h];rfl
  ·rw [dF h,cond_false]
   by_cases h1:x>0
   ·rw [dT h1,if_pos h1];rfl
   ·rw [dF h1,if_neg h1,if_neg h];rfl
 rw [bF k4,if_neg k4,cond_false,bT (by omega)];rfl
def unbentS (kind:Int) (t g:Tn):Int×Tn:=
 if 1≤kind∧kind≤5∧Ft t=true∧Ft g=true then (if t.1=g.1 then (0,t.1,F8 t.2.length (fun i=>Li (rd (0:Int) g.2 i) (J9 kind (rd (0:Int) t.2 i)))) else (4,[],[])) else (1,[],[])
theorem unbentP (kind:Int) (t g:Tn) (ig:inI g.2):f78 kind t g=some (unbentS kind t g):=by
 unfold f78 unbentS f78_j2 f78_j3 f129
 rw [show ((t.1,t.2):Tn)=t from rfl,show ((g.1,g.2):Tn)=g from rfl,F4,F4]
 by_cases h:1≤kind∧kind≤5∧Ft t=true∧Ft g=true
 ·obtain ⟨hp,hl,l1,l2⟩:=Fy h.2.2.1
  obtain ⟨gp,gl,m1,m2⟩:=Fy h.2.2.2
  rw [if_pos h,dT (show kind≥1 by omega),cond_true,Bh,dT (show kind≤5 by omega),h.2.2.1,h.2.2.2,sameP _ _ (by omega)]
  simp only [Bh,Bool.not_true,cond_false]
  by_cases h2:t.1=g.1
  ·have hlen:g.2.length=t.2.length:=by rw [h2] at hl;omega
   rw [if_pos h2,dT h2,Bool.not_true,cond_false,Bh,Fq,copy_t g (by omega) (by omega),Bh]
   have:=F3 (B:=fun go (x:Int×List Int)=>f78_l4 kind t g go x.1 x.2) (fun j=>((j:Int),F8 t.2.length (fun i=>if i<j then Li (rd (0:Int) g.2 i) (J9 kind (rd (0:Int) t.2 i)) else rd (0:Int) g.2 i))) t.2.length (F8 t.2.length (fun i=>Li (rd (0:Int) g.2 i) (J9 kind (rd (0:Int) t.2 i)))) ?_ ?_ (by omega)
   ·have e0:F8 t.2.length (fun i=>if i<0 then Li (rd (0:Int) g.2 i) (J9 kind (rd (0:Int) t.2 i)) else rd (0:Int) g.2 i)=g.2:=by
     apply List.ext_getElem (by rw [Ga,hlen])
     intro i h1 h2
     rw [tab_get,iNo,Gi _ _ _ h2]
    rw [show ((0:Nat):Int)=0 from rfl,e0] at this
    rw [this,Bh,h2]
   ·intro j hj go
    unfold f78_l4
    simp only [Ga]
    have q:=G9 ig j (by omega)
    have s:=slope_in kind (rd (0:Int) t.2 j)
    rw [dT,cond_true,D4,slopeP _ _ h.1 h.2.1,Bh,D4,mulF_ok _ _ q.1 q.2 s.1 s.2,Bh,D4,Fl,Int.toNat_natCast,J4]
    congr 1
    refine Prod.ext rfl (Gd _ _ _ (fun i hi=>?_))
    by_cases hik:i=j
    ·rw [if_pos hik,iPo,hik]
    ·rw [if_neg hik]
     by_cases h2:i<j
     ·rw [if_pos h2,iPo]
     ·rw [if_neg h2,iNo]
   ·intro go
    unfold f78_l4
    simp only
    rw [dF,cond_false]
    congr 1
    exact Gd _ _ _ (fun i hi=>by rw [if_pos hi])
  ·rw [if_neg h2,dF h2];rfl
 ·rw [if_neg h]
  by_cases h1:kind≥1
  ·rw [dT h1,cond_true,Bh]
   by_cases h2:kind≤5
   ·rw [dT h2]
    cases ht:Ft t
    ·rfl
    ·cases hgg:Ft g
     ·rfl
     ·exact absurd ⟨h1,h2,ht,hgg⟩ h
   ·rw [dF h2];rfl
  ·rw [dF h1];rfl
end Go.Proofs.Op
namespace Go.Proofs.Cv
open Go.AM Go.Proofs.PlB Go.Proofs.PlW Go.Proofs.PlT Go.Proofs.PlS Go.Proofs.Sh Go.Proofs.Num Go.Proofs.Div Go.Proofs.Op
def sg (F:Nat→Int):Nat→Int
 | 0=>0
 | k+1=>sg F k+F k
theorem Lg {F G:Nat→Int}:∀ n,(∀ k,k<n→F k=G k)→sg F n=sg G n
 | 0,_=>rfl
 | n+1,h=>by simp only [sg];rw [Lg n (fun k hk=>h k (by omega)),h n (by omega)]
def Pb (x:Int):Prop:=-85070591730234615865843651857942052864≤x∧x≤85070591730234615865843651857942052864
theorem pb_mul {a b:Int} (ha:InR a) (hb:InR b):Pb (a*b):=prod_bound a b ha.1 ha.2 hb.1 hb.2
theorem sg_bd (F:Nat→Int):∀ n,(∀ k,k<n→Pb (F k))→-(n*85070591730234615865843651857942052864)≤sg F n∧sg F n≤n*85070591730234615865843651857942052864
 | 0,_=>by simp [sg]
 | n+1,h=>by
  have:=sg_bd F n (fun k hk=>h k (by omega))
  have h2:=h n (by omega)
  unfold Pb at h2
  simp only [sg]
  constructor <;> omega
theorem sg_sm (F:Nat→Int) (n:Nat) (hn:n≤4096) (h:∀ k,k<n→Pb (F k)) : -1000000000000000000000000000000000000000000≤sg F n∧sg F n≤1000000000000000000000000000000000000000000:=by
 have:=sg_bd F n h
 omega
def acc (S:Int):Int×Int×Int:=(S/340282366920938463463374607431768211456,IntKind.i64.wrap (S/18446744073709551616),S%18446744073709551616)
theorem acc_zero:acc 0=(0,0,0):=by
 unfold acc
 rw [show (0:Int)/340282366920938463463374607431768211456=0 by omega,show (0:Int)/18446744073709551616=0 by omega,show (0:Int)%18446744073709551616=0 by omega,Fl]
theorem acc_plus (S a b:Int) (hs : -1000000000000000000000000000000000000000000≤S∧S≤1000000000000000000000000000000000000000000) (ha:InR a) (hb:InR b) :
  f135 (acc S).1 (acc S).2.1 (acc S).2.2 a b=some (acc (S+a*b)):=plus_ok S a b (by omega) (by omega) ha.1 ha.2 hb.1 hb.2
theorem acc_fix (S:Int) (hs : -1000000000000000000000000000000000000000000≤S∧S≤1000000000000000000000000000000000000000000) :
  ∃ z,f136 (acc S).1 (acc S).2.1 (acc S).2.2 32=some (sat (rhe S),z):=by
 obtain ⟨x,y,z,e⟩:=accFix_ok S (by omega) (by omega)
 exact ⟨_,e⟩
theorem progdot {B:(Int×Int×Int×Int→Option (Int×Int×Int))→Int×Int×Int×Int→Option (Int×Int×Int)} (F:Nat→Int) (m n:Nat) (a b:Nat→Int) (hmn:m+n≤4096)
  (hF:∀ k,k<n→F (m+k)=a k*b k) (ha:∀ k,k<n→InR (a k)) (hb:∀ k,k<n→InR (b k)) (hp:∀ t,t<m+n→Pb (F t))
  (hs:∀ k,k<n→∀ z go,B go ((k:Int),z)=Ey (f135 z.1 z.2.1 z.2.2 (a k) (b k)) fun q=>go (((k+1:Nat):Int),q))
  (he:∀ z go,B go ((n:Int),z)=some z):Fp B Fv ((0:Int),acc (sg F m))=some (acc (sg F (m+n))):=by
 refine F3 (B:=B) (fun k=>((k:Int),acc (sg F (m+k)))) n (acc (sg F (m+n))) ?_ ?_ (by omega)
 ·intro k hk go
  rw [hs k hk,acc_plus _ _ _ (sg_sm F (m+k) (by omega) (fun t ht=>hp t (by omega))) (ha k hk) (hb k hk),Bh,← hF k hk]
  rfl
 ·intro go;exact he _ go
theorem refdot {B:(Int×Bool×Int×Int×Int×Int→Option (Bool×Int×Int×Int×Int))→Int×Bool×Int×Int×Int×Int→Option (Bool×Int×Int×Int×Int)} (F:Nat→Int) (m n:Nat) (a b:Nat→Int) (hmn:m+n≤4096)
  (hF:∀ k,k<n→F (m+k)=a k*b k) (ha:∀ k,k<n→InR (a k)) (hb:∀ k,k<n→InR (b k)) (hp:∀ t,t<m+n→Pb (F t))
  (hs:∀ k,k<n→∀ z go,B go ((k:Int),z)=Ey (f86 (a k) (b k)) fun q=>Ey (f85 z.1 z.2.1 z.2.2.1 z.2.2.2.1 z.2.2.2.2 q.1 q.2.1 q.2.2.1 q.2.2.2.1 q.2.2.2.2) fun q=>go (((k+1:Nat):Int),q))
  (he:∀ z go,B go ((n:Int),z)=some z) (x:Bool×Int×Int×Int×Int) (hx:Nm (sg F m) x):∃ z,Fp B Fv ((0:Int),x)=some z∧Nm (sg F (m+n)) z:=by
 refine Kv (B:=B) (fun k y=>y.1=(k:Int)∧Nm (sg F (m+k)) y.2) (fun z=>Nm (sg F (m+n)) z) n ((0:Int),x) ⟨rfl,hx⟩ ?_ ?_ (by omega)
 ·rintro k hk ⟨_,y⟩ ⟨rfl,hy⟩
  simp only at hy
  have qa:=ha k hk
  have qb:=hb k hk
  obtain ⟨t,et,ht⟩:=times_nm (a k) (b k) qa.1 qa.2 qb.1 qb.2
  have s1:=sg_sm F (m+k) (by omega) (fun t ht=>hp t (by omega))
  have s2:=pb_mul qa qb
  unfold Pb at s2
  have t1:Sm (sg F (m+k)):=by unfold Sm;omega
  have t2:Sm (a k*b k):=by unfold Sm;omega
  obtain ⟨z,ez,hz⟩:=plus_nm hy ht t1 t2
  refine ⟨(((k+1:Nat):Int),z),fun go=>?_,rfl,?_⟩
  ·rw [hs k hk,et,Bh,ez,Bh]
  ·rw [← hF k hk] at hz;exact hz
 ·rintro ⟨_,y⟩ ⟨rfl,hy⟩
  exact ⟨y,fun go=>he y go,hy⟩
theorem ref_end {S:Int} {x:Bool×Int×Int×Int×Int} (hx:Nm S x) (hs : -1000000000000000000000000000000000000000000≤S∧S≤1000000000000000000000000000000000000000000) :
  ∃ z,f87 x.1 x.2.1 x.2.2.1 x.2.2.2.1 x.2.2.2.2 32=some z∧f39 z.1 z.2.1 z.2.2.1 z.2.2.2.1 z.2.2.2.2=some (sat (rhe S)):=by
 obtain ⟨z,ez,hz⟩:=halved_nm hx (by unfold Sm;omega)
 exact ⟨z,ez,Lk hz (sm_rhe hs)⟩
theorem wnat {n:Nat} (h:n<1000000000):IntKind.i64.wrap (n:Int)=(n:Int):=Fl (by omega) (by omega)
theorem wmul (a b:Nat) (h:a*b<1000000000):IntKind.i64.wrap ((a:Int)*b)=((a*b:Nat):Int):=by rw [← Int.natCast_mul];exact wnat h
theorem wadd (a b:Nat) (h:a+b<1000000000):IntKind.i64.wrap ((a:Int)+b)=((a+b:Nat):Int):=by rw [← Int.natCast_add];exact wnat h
theorem Gr (a:Nat) (h:a<100000000:=by omega):IntKind.i64.wrap ((a:Int)+1)=((a+1:Nat):Int):=wadd a 1 (by omega)
theorem ixA (x L n s y:Nat) (h:x*L+n*s+y<1000000):IntKind.i64.wrap (IntKind.i64.wrap (IntKind.i64.wrap ((x:Int)*L)+IntKind.i64.wrap ((n:Int)*s))+y)=((x*L+n*s+y:Nat):Int):=by
 rw [wmul x L (by omega),wmul n s (by omega),wadd _ _ (by omega),wadd _ _ (by omega)]
theorem ixM (i c x:Nat) (h:i*c+x<1000000):IntKind.i64.wrap (IntKind.i64.wrap ((i:Int)*c)+x)=((i*c+x:Nat):Int):=by
 rw [wmul i c (by omega),wadd _ _ (by omega)]
theorem ixK (i c x w y:Nat) (hw:1≤w) (h:(i*c+x)*w+y<1000000):IntKind.i64.wrap (IntKind.i64.wrap (IntKind.i64.wrap (IntKind.i64.wrap ((i:Int)*c)+x)*w)+y)=(((i*c+x)*w+y:Nat):Int):=by
 have:i*c+x≤(i*c+x)*w:=Nat.le_mul_of_pos_right _ hw
 rw [ixM i c x (by omega),wmul _ _ (by omega),wadd _ _ (by omega)]
theorem rdIn {l:List Int} (h:inI l) {i:Nat} (hi:i<l.length):InR (rd (0:Int) l (i:Int)):=G9 h i hi
theorem Jf {x y c L:Nat} (hx:x<c) (hy:y<L):x*L+y<c*L:=by
 have:(x+1)*L≤c*L:=Nat.mul_le_mul_right _ hx
 rw [Nat.add_mul,Nat.one_mul] at this
 omega
theorem Ko {x y L:Nat} (hy:y<L):(x*L+y)/L=x∧(x*L+y)%L=y:=by
 have h0:0<L:=by omega
 constructor
 ·rw [Nat.mul_comm,Nat.mul_add_div h0,Nat.div_eq_of_lt hy,Nat.add_zero]
 ·rw [Nat.mul_comm,Nat.mul_add_mod,Nat.mod_eq_of_lt hy]
def F7 (L w s:Nat):Nat:=(L-w)/s+1
def rowF (A K:List Int) (c L w s i n t:Nat):Int:=rd (0:Int) A ((t/w*L+n*s+t%w:Nat):Int)*rd (0:Int) K ((i*(c*w)+t:Nat):Int)
def rowV (A K:List Int) (c L w s q:Nat):Int:=sat (rhe (sg (rowF A K c L w s (q/F7 L w s) (q%F7 L w s)) (c*w)))
theorem step_in {L w s n y:Nat} (hw:w≤L) (hn:n<F7 L w s) (hy:y<w) (hs:1≤s):n*s+y<L:=by
 unfold F7 at hn
 have h1:n≤(L-w)/s:=by omega
 have h2:n*s≤(L-w)/s*s:=Nat.mul_le_mul_right _ h1
 have h3:(L-w)/s*s≤L-w:=Nat.div_mul_le_self _ _
 omega
theorem prod3 {o c w:Int} (h:0<prd [o,c,w]):1≤o∧1≤c∧1≤w∧prd [o,c,w]=o*(c*w):=by
 obtain ⟨e,h1,_⟩:=G3 h
 refine ⟨(h1 o (by simp)).1,(h1 c (by simp)).1,(h1 w (by simp)).1,?_⟩
 rw [e];simp [Ge]
theorem prod2 {c L:Int} (h:0<prd [c,L]):1≤c∧1≤L∧prd [c,L]=c*L:=by
 obtain ⟨e,h1,_⟩:=G3 h
 refine ⟨(h1 c (by simp)).1,(h1 L (by simp)).1,?_⟩
 rw [e];simp [Ge]
section
variable (A K:List Int) (c L o w s:Nat) (c1:1≤c) (w1:1≤w) (hA:A.length=c*L) (hK:K.length=o*(c*w)) (bA:c*L≤4096) (bK:o*(c*w)≤4096) (hw:w≤L) (s1:1≤s) (s64:s≤64) (iA:inI A) (iK:inI K)
include c1 w1 hA hK bA bK hw s1 s64 iA iK
theorem row_a {n x y:Nat} (hn:n<F7 L w s) (hx:x<c) (hy:y<w):x*L+n*s+y<A.length:=by
 have h1:=step_in hw hn hy s1
 have h2:=Jf (c:=c) hx h1
 rw [hA];omega
theorem row_k {i x y:Nat} (hi:i<o) (hx:x<c) (hy:y<w):(i*c+x)*w+y<K.length∧(i*c+x)*w+y=i*(c*w)+(x*w+y):=by
 have e:(i*c+x)*w+y=i*(c*w)+(x*w+y):=by rw [Nat.add_mul,Nat.mul_assoc];omega
 refine ⟨?_,e⟩
 rw [e,hK]
 exact Jf hi (Jf hx hy)
theorem row_f {i n x y:Nat} (hy:y<w):rowF A K c L w s i n (x*w+y)=rd (0:Int) A ((x*L+n*s+y:Nat):Int)*rd (0:Int) K (((i*c+x)*w+y:Nat):Int):=by
 unfold rowF
 obtain ⟨d1,d2⟩:=Ko (x:=x) hy
 have e:(i*c+x)*w+y=i*(c*w)+(x*w+y):=by rw [Nat.add_mul,Nat.mul_assoc];omega
 rw [d1,d2,e]
theorem row_p {i n t:Nat} (hi:i<o) (hn:n<F7 L w s) (ht:t<c*w):Pb (rowF A K c L w s i n t):=by
 have hx:t/w<c:=Nat.div_lt_of_lt_mul (by rw [Nat.mul_comm];exact ht)
 have hy:t%w<w:=Nat.mod_lt _ w1
 have e:t/w*w+t%w=t:=by rw [Nat.mul_comm];exact Nat.div_add_mod t w
 have:=row_f A K c L o w s c1 w1 hA hK bA bK hw s1 s64 iA iK (i:=i) (n:=n) (x:=t/w) hy
 rw [e] at this
 rw [this]
 exact pb_mul (rdIn iA (row_a A K c L o w s c1 w1 hA hK bA bK hw s1 s64 iA iK hn hx hy)) (rdIn iK (row_k A K c L o w s c1 w1 hA hK bA bK hw s1 s64 iA iK hi hx hy).1)
theorem row_cw (ho:1≤o):c*w≤4096:=Nat.le_trans (Nat.le_mul_of_pos_left _ ho) bK
theorem row_sumP (q:Nat) (hq:q<o*F7 L w s) :
  Fp (fun go (x:Int×Int×Int×Int)=>f95_l17 ([(c:Int),(L:Int)],A) ([(o:Int),(c:Int),(w:Int)],K) s (F7 L w s:Int) (q:Int) go x.1 x.2.1 x.2.2.1 x.2.2.2) Fv ((0:Int),(0:Int),(0:Int),(0:Int))
   = some (acc (sg (rowF A K c L w s (q/F7 L w s) (q%F7 L w s)) (c*w))):=by
 have m1:1≤F7 L w s:=Nat.le_add_left 1 _
 have ho:1≤o:=Nat.pos_of_ne_zero (fun h=>by rw [h,Nat.zero_mul] at hq;exact absurd hq (Nat.not_lt_zero _))
 have hcw:=row_cw A K c L o w s c1 w1 hA hK bA bK hw s1 s64 iA iK ho
 have hi:q/F7 L w s<o:=Nat.div_lt_of_lt_mul (by rw [Nat.mul_comm];exact hq)
 have hn:q%F7 L w s<F7 L w s:=Nat.mod_lt _ m1
 have eI:IntKind.i64.wrap (Int.tdiv (q:Int) (F7 L w s:Int))=((q/F7 L w s:Nat):Int):=by
  rw [Int.tdiv_eq_ediv_of_nonneg (by omega),← Int.natCast_ediv]
  have:q/F7 L w s≤q:=Nat.div_le_self _ _
  have hl:F7 L w s≤4097:=by unfold F7;have:=Nat.div_le_self (L-w) s;have:L≤c*L:=Nat.le_mul_of_pos_left _ c1;omega
  have:o≤o*(c*w):=Nat.le_mul_of_pos_right _ (Nat.mul_pos c1 w1)
  exact wnat (by omega)
 have eN:Int.tmod (q:Int) (F7 L w s:Int)=((q%F7 L w s:Nat):Int):=by
  rw [Int.tmod_eq_emod_of_nonneg (by omega),← Int.natCast_emod]
 generalize q/F7 L w s=i at *
 generalize q%F7 L w s=n at *
 have h:=F3 (B:=fun go (x:Int×Int×Int×Int)=>f95_l17 ([(c:Int),(L:Int)],A) ([(o:Int),(c:Int),(w:Int)],K) s (F7 L w s:Int) (q:Int) go x.1 x.2.1 x.2.2.1 x.2.2.2)
  (fun x=>((x:Int),acc (sg (rowF A K c L w s i n) (x*w)))) c (acc (sg (rowF A K c L w s i n) (c*w))) ?_ ?_ (by have:c≤c*w:=Nat.le_mul_of_pos_right _ w1;omega)
 ·rw [Nat.zero_mul] at h
  have e0:acc (sg (rowF A K c L w s i n) 0)=((0:Int),(0:Int),(0:Int)):=acc_zero
  rw [e0] at h
  exact h
 ·intro x hx go
  have hc:c≤c*w:=Nat.le_mul_of_pos_right _ w1
  unfold f95_l17
  simp only
  rw [show rd (0:Int) [(c:Int),(L:Int)] 0=(c:Int) from rfl,dT,cond_true]
  have hxw:x*w+w≤c*w:=by have:=Nat.mul_le_mul_right w (show x+1≤c from hx);rw [Nat.add_mul,Nat.one_mul] at this;exact this
  have Km:=progdot (B:=fun go (z:Int×Int×Int×Int)=>f95_l18 ([(c:Int),(L:Int)],A) ([(o:Int),(c:Int),(w:Int)],K) s (F7 L w s:Int) (q:Int) (x:Int) go z.1 z.2.1 z.2.2.1 z.2.2.2)
   (rowF A K c L w s i n) (x*w) w (fun y=>rd (0:Int) A ((x*L+n*s+y:Nat):Int)) (fun y=>rd (0:Int) K (((i*c+x)*w+y:Nat):Int)) (by omega)
   (fun y hy=>row_f A K c L o w s c1 w1 hA hK bA bK hw s1 s64 iA iK hy)
   (fun y hy=>rdIn iA (row_a A K c L o w s c1 w1 hA hK bA bK hw s1 s64 iA iK hn hx hy)) (fun y hy=>rdIn iK (row_k A K c L o w s c1 w1 hA hK bA bK hw s1 s64 iA iK hi hx hy).1)
   (fun t ht=>row_p A K c L o w s c1 w1 hA hK bA bK hw s1 s64 iA iK hi hn (by omega)) ?_ ?_
  ·have e:sg (rowF A K c L w s i n) (x*w+w)=sg (rowF A K c L w s i n) ((x+1)*w):=by rw [Nat.add_mul,Nat.one_mul]
   rw [e] at Km
   have inner':Fp (fun go (z:Int×Int×Int×Int)=>f95_l18 ([(c:Int),(L:Int)],A) ([(o:Int),(c:Int),(w:Int)],K) s (F7 L w s:Int) (q:Int) (x:Int) go z.1 z.2.1 z.2.2.1 z.2.2.2) Fv ((0:Int),(acc (sg (rowF A K c L w s i n) (x*w))).1,(acc (sg (rowF A K c L w s i n) (x*w))).2.1,(acc (sg (rowF A K c L w s i n) (x*w))).2.2)=_:=Km
   rw [inner',Bh,Gr x]
  ·intro y hy z go
   have ha:=row_a A K c L o w s c1 w1 hA hK bA bK hw s1 s64 iA iK hn hx hy
   have hk:=(row_k A K c L o w s c1 w1 hA hK bA bK hw s1 s64 iA iK hi hx hy).1
   unfold f95_l18
   simp only
   rw [show rd (0:Int) [(o:Int),(c:Int),(w:Int)] 2=(w:Int) from rfl,show rd (0:Int) [(c:Int),(L:Int)] 1=(L:Int) from rfl,show rd (0:Int) [(c:Int),(L:Int)] 0=(c:Int) from rfl,dT,cond_true,eI,eN,
    ixA x L n s y (by omega),ixK i c x w y w1 (by omega),D4,D4,Gr y]
  ·intro z go
   unfold f95_l18
   simp only
   rw [show rd (0:Int) [(o:Int),(c:Int),(w:Int)] 2=(w:Int) from rfl,dF,cond_false]
 ·intro go
  unfold f95_l17
  simp only
  rw [show rd (0:Int) [(c:Int),(L:Int)] 0=(c:Int) from rfl,dF,cond_false]
theorem row_sumR (i n:Nat) (hi:i<o) (hn:n<F7 L w s) :
  ∃ z,Fp (fun go (x:Int×Bool×Int×Int×Int×Int)=>f108_l45 ([(c:Int),(L:Int)],A) ([(o:Int),(c:Int),(w:Int)],K) s (i:Int) (n:Int) go x.1 x.2.1 x.2.2.1 x.2.2.2.1 x.2.2.2.2.1 x.2.2.2.2.2) Fv ((0:Int),false,(0:Int),(0:Int),(0:Int),(0:Int))=some z∧
   Nm (sg (rowF A K c L w s i n) (c*w)) z:=by
 have ho:1≤o:=by omega
 have hcw:=row_cw A K c L o w s c1 w1 hA hK bA bK hw s1 s64 iA iK ho
 have hc:c≤c*w:=Nat.le_mul_of_pos_right _ w1
 refine Kv (B:=fun go (x:Int×Bool×Int×Int×Int×Int)=>f108_l45 ([(c:Int),(L:Int)],A) ([(o:Int),(c:Int),(w:Int)],K) s (i:Int) (n:Int) go x.1 x.2.1 x.2.2.1 x.2.2.2.1 x.2.2.2.2.1 x.2.2.2.2.2)
  (fun x y=>y.1=(x:Int)∧Nm (sg (rowF A K c L w s i n) (x*w)) y.2) (fun z=>Nm (sg (rowF A K c L w s i n) (c*w)) z) c _ ⟨rfl,by rw [Nat.zero_mul];exact nm_zero⟩ ?_ ?_ (by omega)
 ·rintro x hx ⟨_,u⟩ ⟨rfl,hu⟩
  simp only at hu
  have hxw:x*w+w≤c*w:=by have:=Nat.mul_le_mul_right w (show x+1≤c from hx);rw [Nat.add_mul,Nat.one_mul] at this;exact this
  obtain ⟨z,ez,hz⟩:=refdot (B:=fun go (z:Int×Bool×Int×Int×Int×Int)=>f108_l46 ([(c:Int),(L:Int)],A) ([(o:Int),(c:Int),(w:Int)],K) s (i:Int) (n:Int) (x:Int) go z.1 z.2.1 z.2.2.1 z.2.2.2.1 z.2.2.2.2.1 z.2.2.2.2.2)
   (rowF A K c L w s i n) (x*w) w (fun y=>rd (0:Int) A ((x*L+n*s+y:Nat):Int)) (fun y=>rd (0:Int) K (((i*c+x)*w+y:Nat):Int)) (by omega)
   (fun y hy=>row_f A K c L o w s c1 w1 hA hK bA bK hw s1 s64 iA iK hy)
   (fun y hy=>rdIn iA (row_a A K c L o w s c1 w1 hA hK bA bK hw s1 s64 iA iK hn hx hy)) (fun y hy=>rdIn iK (row_k A K c L o w s c1 w1 hA hK bA bK hw s1 s64 iA iK hi hx hy).1)
   (fun t ht=>row_p A K c L o w s c1 w1 hA hK bA bK hw s1 s64 iA iK hi hn (by omega)) (by
    intro y hy z go
    have ha:=row_a A K c L o w s c1 w1 hA hK bA bK hw s1 s64 iA iK hn hx hy
    have hk:=(row_k A K c L o w s c1 w1 hA hK bA bK hw s1 s64 iA iK hi hx hy).1
    unfold f108_l46
    simp only
    rw [show rd (0:Int) [(o:Int),(c:Int),(w:Int)] 2=(w:Int) from rfl,show rd (0:Int) [(c:Int),(L:Int)] 1=(L:Int) from rfl,show rd (0:Int) [(c:Int),(L:Int)] 0=(c:Int) from rfl,dT,cond_true,
     ixA x L n s y (by omega),ixK i c x w y w1 (by omega),D4,D4,Gr y]) (by
    intro z go
    unfold f108_l46
    simp only
    rw [show rd (0:Int) [(o:Int),(c:Int),(w:Int)] 2=(w:Int) from rfl,dF,cond_false]) u hu
  refine ⟨(((x+1:Nat):Int),z),fun go=>?_,rfl,by simp only;rw [Nat.add_mul,Nat.one_mul];exact hz⟩
  unfold f108_l45
  simp only
  have ez':Fp (fun go (z:Int×Bool×Int×Int×Int×Int)=>f108_l46 ([(c:Int),(L:Int)],A) ([(o:Int),(c:Int),(w:Int)],K) s (i:Int) (n:Int) (x:Int) go z.1 z.2.1 z.2.2.1 z.2.2.2.1 z.2.2.2.2.1 z.2.2.2.2.2) Fv ((0:Int),u.1,u.2.1,u.2.2.1,u.2.2.2.1,u.2.2.2.2)=some z:=ez
  rw [show rd (0:Int) [(c:Int),(L:Int)] 0=(c:Int) from rfl,dT,cond_true,ez',Bh,Gr x]
 ·rintro ⟨_,u⟩ ⟨rfl,hu⟩
  refine ⟨u,fun go=>?_,hu⟩
  unfold f108_l45
  simp only
  rw [show rd (0:Int) [(c:Int),(L:Int)] 0=(c:Int) from rfl,dF,cond_false]
end
theorem win_eq (L w s:Nat) (hw:w≤L) (hl:L≤100000):IntKind.i64.wrap (IntKind.i64.wrap (Int.tdiv (IntKind.i64.wrap ((L:Int)-(w:Int))) (s:Int))+1)=(F7 L w s:Int):=by
 have e:(L:Int)-(w:Int)=((L-w:Nat):Int):=by omega
 have:=Nat.div_le_self (L-w) s
 rw [e,wnat (by omega),Int.tdiv_eq_ediv_of_nonneg (by omega),← Int.natCast_ediv,wnat (by omega),Gr _]
 rfl
theorem winP (L w s:Nat) (hw:w≤L) (hl:L≤100000) (s1:1≤s):f133 (L:Int) (w:Int) (s:Int)=some (F7 L w s:Int):=by
 unfold f133
 rw [dF,cond_false,D4,win_eq L w s hw hl]
theorem win_none (L w s:Int) (hw:w>L):f133 L w s=some 0:=by
 unfold f133
 rw [dT hw];rfl
theorem of_ok (d:List Int):f134 d=some (if 0<prd d then (0,d,List.replicate (prd d).toNat 0) else (2,[],[])):=by
 unfold f134
 rw [K3]
 by_cases h:0<prd d
 ·rw [if_pos h,if_pos h,Bh,nF rfl];rfl
 ·rw [if_neg h,if_neg h,Bh,nT (by decide:¬(1:Int)=0)];rfl
section
variable (A K:List Int) (c L o w s:Nat) (c1:1≤c) (w1:1≤w) (hA:A.length=c*L) (hK:K.length=o*(c*w)) (bA:c*L≤4096) (bK:o*(c*w)≤4096) (hw:w≤L) (s1:1≤s) (s64:s≤64) (iA:inI A) (iK:inI K) (o1:1≤o)
include c1 w1 hA hK bA bK hw s1 s64 iA iK o1
theorem row_loopP (n0:0<prd [(o:Int),(F7 L w s:Int)]) :
  Fp (fun go (x:Int×List Int)=>f95_l14 ([(c:Int),(L:Int)],A) ([(o:Int),(c:Int),(w:Int)],K) s (F7 L w s:Int) (0,[(o:Int),(F7 L w s:Int)],List.replicate (o*F7 L w s) 0) go x.1 x.2) Fv ((0:Int),List.replicate (o*F7 L w s) 0)=some (F8 (o*F7 L w s) (rowV A K c L w s)):=by
 have hp:=(prod2 n0).2.2
 have hr:=F2 [(o:Int),(F7 L w s:Int)]
 have hN:((o*F7 L w s:Nat):Int)≤4096:=by rw [Int.natCast_mul];omega
 rw [Gf _ (rowV A K c L w s)]
 have h:=F3 (B:=fun go (x:Int×List Int)=>f95_l14 ([(c:Int),(L:Int)],A) ([(o:Int),(c:Int),(w:Int)],K) s (F7 L w s:Int) (0,[(o:Int),(F7 L w s:Int)],J8 (o*F7 L w s) 0 (rowV A K c L w s)) go x.1 x.2) (fun q=>((q:Int),J8 (o*F7 L w s) q (rowV A K c L w s))) (o*F7 L w s) (F8 (o*F7 L w s) (rowV A K c L w s)) ?_ ?_ (by omega)
 ·exact h
 ·intro q hq go
  unfold f95_l14
  simp only [F5]
  have m1:1≤F7 L w s:=Nat.le_add_left 1 _
  have m0:(F7 L w s:Int)≠0:=by omega
  have hcw:=row_cw A K c L o w s c1 w1 hA hK bA bK hw s1 s64 iA iK o1
  have hi:q/F7 L w s<o:=Nat.div_lt_of_lt_mul (by rw [Nat.mul_comm];exact hq)
  have hn:q%F7 L w s<F7 L w s:=Nat.mod_lt _ (Nat.le_add_left 1 _)
  obtain ⟨z,ez⟩:=acc_fix (sg (rowF A K c L w s (q/F7 L w s) (q%F7 L w s)) (c*w)) (sg_sm _ _ hcw (fun t ht=>row_p A K c L o w s c1 w1 hA hK bA bK hw s1 s64 iA iK hi hn ht))
  rw [dT,cond_true,D4 m0,D4 m0,row_sumP A K c L o w s c1 w1 hA hK bA bK hw s1 s64 iA iK q hq,Bh,ez,Bh,D4,Gr q,Int.toNat_natCast]
  have:=Gu (o*F7 L w s) q (rowV A K c L w s) _ hq (rfl:sat (rhe (sg (rowF A K c L w s (q/F7 L w s) (q%F7 L w s)) (c*w)))=rowV A K c L w s q)
  simp only
  rw [this]
 ·intro go
  unfold f95_l14
  simp only [F5]
  rw [dF,cond_false,Gg]
theorem row_loopR (n0:0<prd [(o:Int),(F7 L w s:Int)]) :
  Fp (fun go (x:Int×List Int)=>f108_l33 ([(c:Int),(L:Int)],A) ([(o:Int),(c:Int),(w:Int)],K) s go x.1 x.2) Fv ((0:Int),List.replicate (o*F7 L w s) 0)=some (F8 (o*F7 L w s) (rowV A K c L w s)):=by
 have hp:=(prod2 n0).2.2
 have hr:=F2 [(o:Int),(F7 L w s:Int)]
 have hN:((o*F7 L w s:Nat):Int)≤4096:=by rw [Int.natCast_mul];omega
 have m1:1≤F7 L w s:=Nat.le_add_left 1 _
 have hoN:o≤o*F7 L w s:=Nat.le_mul_of_pos_right _ m1
 have hmN:F7 L w s≤o*F7 L w s:=Nat.le_mul_of_pos_left _ o1
 have hL:L≤4096:=Nat.le_trans (Nat.le_mul_of_pos_left _ c1) bA
 rw [Gf _ (rowV A K c L w s)]
 have h:=F3 (B:=fun go (x:Int×List Int)=>f108_l33 ([(c:Int),(L:Int)],A) ([(o:Int),(c:Int),(w:Int)],K) s go x.1 x.2) (fun i=>((i:Int),J8 (o*F7 L w s) (i*F7 L w s) (rowV A K c L w s))) o (F8 (o*F7 L w s) (rowV A K c L w s)) ?_ ?_ (by omega)
 ·rw [Nat.zero_mul] at h;exact h
 ·intro i hi go
  unfold f108_l33
  simp only
  have Km:=F3 (B:=fun go (x:Int×List Int)=>f108_l42 ([(c:Int),(L:Int)],A) ([(o:Int),(c:Int),(w:Int)],K) s (i:Int) go x.1 x.2) (fun j=>((j:Int),J8 (o*F7 L w s) (i*F7 L w s+j) (rowV A K c L w s))) (F7 L w s) (J8 (o*F7 L w s) ((i+1)*F7 L w s) (rowV A K c L w s)) ?_ ?_ (by omega)
  ·rw [Nat.add_zero] at Km
   have inner':Fp (fun go (x:Int×List Int)=>f108_l42 ([(c:Int),(L:Int)],A) ([(o:Int),(c:Int),(w:Int)],K) s (i:Int) go x.1 x.2) Fv ((0:Int),J8 (o*F7 L w s) (i*F7 L w s) (rowV A K c L w s))=_:=Km
   rw [show rd (0:Int) [(o:Int),(c:Int),(w:Int)] 0=(o:Int) from rfl,dT,cond_true,inner',Bh,Gr i]
  ·intro j hj go
   have hq:=Jf (c:=o) hi hj
   obtain ⟨d1,d2⟩:=Ko (x:=i) hj
   have hcw:=row_cw A K c L o w s c1 w1 hA hK bA bK hw s1 s64 iA iK o1
   obtain ⟨z,ez,hz⟩:=row_sumR A K c L o w s c1 w1 hA hK bA bK hw s1 s64 iA iK i j hi hj
   obtain ⟨y,ey,hy⟩:=ref_end hz (sg_sm _ _ hcw (fun t ht=>row_p A K c L o w s c1 w1 hA hK bA bK hw s1 s64 iA iK hi hj ht))
   unfold f108_l42
   simp only [F5]
   rw [show rd (0:Int) [(o:Int),(c:Int),(w:Int)] 2=(w:Int) from rfl,show rd (0:Int) [(c:Int),(L:Int)] 1=(L:Int) from rfl,win_eq L w s hw (by omega),dT,cond_true,ez,Bh,ey,Bh,hy,Bh,
    ixM i (F7 L w s) j (by omega),D4,Int.toNat_natCast,Gr j]
   have:=Gu (o*F7 L w s) (i*F7 L w s+j) (rowV A K c L w s) (sat (rhe (sg (rowF A K c L w s i j) (c*w)))) hq (by unfold rowV;rw [d1,d2])
   rw [this]
   rfl
  ·intro go
   unfold f108_l42
   simp only
   rw [show rd (0:Int) [(o:Int),(c:Int),(w:Int)] 2=(w:Int) from rfl,show rd (0:Int) [(c:Int),(L:Int)] 1=(L:Int) from rfl,win_eq L w s hw (by omega),dF,cond_false,Nat.add_mul,Nat.one_mul]
 ·intro go
  unfold f108_l33
  simp only
  rw [show rd (0:Int) [(o:Int),(c:Int),(w:Int)] 0=(o:Int) from rfl,dF,cond_false,Gg]
end
abbrev Jx (a k:Tn):Prop:=a.1.length=2∧k.1.length=3∧rd (0:Int) k.1 1=rd (0:Int) a.1 0∧rd (0:Int) k.1 2≤rd (0:Int) a.1 1
abbrev Jk (a k:Tn) (step:Int):Prop:=Ft a=true∧Ft k=true∧1≤step∧step≤64
def rowS (a k:Tn) (step:Int):Int×Tn:=
 if Jk a k step then
  if Jx a k then
   if 0<prd [rd (0:Int) k.1 0,(F7 (rd (0:Int) a.1 1).toNat (rd (0:Int) k.1 2).toNat step.toNat:Int)] then
    (0,[rd (0:Int) k.1 0,(F7 (rd (0:Int) a.1 1).toNat (rd (0:Int) k.1 2).toNat step.toNat:Int)],
     F8 ((rd (0:Int) k.1 0).toNat*F7 (rd (0:Int) a.1 1).toNat (rd (0:Int) k.1 2).toNat step.toNat) (rowV a.2 k.2 (rd (0:Int) a.1 0).toNat (rd (0:Int) a.1 1).toNat (rd (0:Int) k.1 2).toNat step.toNat))
   else (2,[],[])
  else (4,[],[])
 else (1,[],[])
theorem two_of {d:List Int} (h:d.length=2):d=[rd (0:Int) d 0,rd (0:Int) d 1]:=by
 match d,h with
 | [x,y],_=>rfl
theorem three_of {d:List Int} (h:d.length=3):d=[rd (0:Int) d 0,rd (0:Int) d 1,rd (0:Int) d 2]:=by
 match d,h with
 | [x,y,z],_=>rfl
theorem Gy {a:Tn} (ha:Ft a=true) (h:a.1.length=2):∃ c L:Nat,a=([(c:Int),(L:Int)],a.2)∧1≤c∧1≤L∧a.2.length=c*L∧c*L≤4096:=by
 obtain ⟨hp,hl,_,l2⟩:=Fy ha
 have e:=two_of h
 rw [e] at hp hl
 obtain ⟨h1,h2,h3⟩:=prod2 hp
 obtain ⟨c,hc⟩:=Int.eq_ofNat_of_zero_le (show 0≤rd (0:Int) a.1 0 by omega)
 obtain ⟨L,hL⟩:=Int.eq_ofNat_of_zero_le (show 0≤rd (0:Int) a.1 1 by omega)
 rw [h3,hc,hL,← Int.natCast_mul] at hl
 exact ⟨c,L,Prod.ext (by rw [← hc,← hL];exact e) rfl,by omega,by omega,by omega,by omega⟩
theorem ker_nat {a:Tn} (ha:Ft a=true) (h:a.1.length=3):∃ o c w:Nat,a=([(o:Int),(c:Int),(w:Int)],a.2)∧1≤o∧1≤c∧1≤w∧a.2.length=o*(c*w)∧o*(c*w)≤4096:=by
 obtain ⟨hp,hl,_,l2⟩:=Fy ha
 have e:=three_of h
 rw [e] at hp hl
 obtain ⟨h1,h2,h3,h4⟩:=prod3 hp
 obtain ⟨o,ho⟩:=Int.eq_ofNat_of_zero_le (show 0≤rd (0:Int) a.1 0 by omega)
 obtain ⟨c,hc⟩:=Int.eq_ofNat_of_zero_le (show 0≤rd (0:Int) a.1 1 by omega)
 obtain ⟨w,hw⟩:=Int.eq_ofNat_of_zero_le (show 0≤rd (0:Int) a.1 2 by omega)
 rw [h4,ho,hc,hw,← Int.natCast_mul,← Int.natCast_mul] at hl
 exact ⟨o,c,w,Prod.ext (by rw [← ho,← hc,← hw];exact e) rfl,by omega,by omega,by omega,by omega,by omega⟩
theorem row_j5 (a k:Tn):f95_j5 a k=some (!(decide (Jx a k))):=by
 unfold f95_j5
 by_cases h1:a.1.length=2
 ·rw [nF,cond_false]
  by_cases h2:k.1.length=3
  ·rw [nF,cond_false,D4,D4]
   by_cases h3:rd (0:Int) k.1 1=rd (0:Int) a.1 0
   ·rw [nF h3,cond_false,D4,D4]
    by_cases h4:rd (0:Int) k.1 2≤rd (0:Int) a.1 1
    ·rw [dF,dT (show Jx a k from ⟨h1,h2,h3,h4⟩)];rfl
    ·rw [dT,dF (show ¬Jx a k from fun h=>h4 h.2.2.2)];rfl
   ·rw [nT h3,dF (show ¬Jx a k from fun h=>h3 h.2.2.1)];rfl
  ·rw [nT,dF (show ¬Jx a k from fun h=>h2 h.2.1)];rfl
 ·rw [nT,dF (show ¬Jx a k from fun h=>h1 h.1)];rfl
theorem row_j6 (a k:Tn):f108_j6 a k=some (!(decide (Jx a k))):=by
 unfold f108_j6
 by_cases h1:a.1.length=2
 ·rw [nF,cond_false]
  by_cases h2:k.1.length=3
  ·rw [nF,cond_false,D4,D4]
   by_cases h3:rd (0:Int) a.1 0=rd (0:Int) k.1 1
   ·rw [nF h3,cond_false,D4,D4]
    by_cases h4:rd (0:Int) k.1 2≤rd (0:Int) a.1 1
    ·rw [dF,dT (show Jx a k from ⟨h1,h2,h3.symm,h4⟩)];rfl
    ·rw [dT,dF (show ¬Jx a k from fun h=>h4 h.2.2.2)];rfl
   ·rw [nT h3,dF (show ¬Jx a k from fun h=>h3 h.2.2.1.symm)];rfl
  ·rw [nT,dF (show ¬Jx a k from fun h=>h2 h.2.1)];rfl
 ·rw [nT,dF (show ¬Jx a k from fun h=>h1 h.1)];rfl
theorem row_j4 (a k:Tn) (step:Int):f95_j4 a k step=some (!(decide (Jk a k step))):=by
 unfold f95_j4 f131
 have e1:f28 (a.1,a.2)=some (Ft a):=F4 a
 have e2:f28 (k.1,k.2)=some (Ft k):=F4 k
 generalize hd:decide (Jk a k step)=d
 rw [e1,Bh]
 by_cases ha:Ft a=true
 ·rw [ha,Bool.not_true,cond_false,e2,Bh]
  by_cases hk:Ft k=true
  ·rw [hk,Bool.not_true,cond_false]
   by_cases h1:step≥1
   ·rw [dT h1,cond_true]
    by_cases h2:step≤64
    ·rw [dT h2];rw [dT (show Jk a k step from ⟨ha,hk,h1,h2⟩)] at hd;rw [← hd];rfl
    ·rw [dF h2];rw [dF (show ¬Jk a k step from fun h=>h2 h.2.2.2)] at hd;rw [← hd];rfl
   ·rw [dF h1];rw [dF (show ¬Jk a k step from fun h=>h1 h.2.2.1)] at hd;rw [← hd];rfl
  ·rw [show Ft k=false by simpa using hk];rw [dF (show ¬Jk a k step from fun h=>hk h.2.1)] at hd;rw [← hd];rfl
 ·rw [show Ft a=false by simpa using ha];rw [dF (show ¬Jk a k step from fun h=>ha h.1)] at hd;rw [← hd];rfl
theorem row_j3 (a k:Tn) (step:Int):f108_j3 a k step=some (!(decide (Jk a k step))):=by
 unfold f108_j3
 have e1:f32 (a.1,a.2)=some (Ft a):=isR a
 have e2:f32 (k.1,k.2)=some (Ft k):=isR k
 generalize hd:decide (Jk a k step)=d
 rw [e1,Bh]
 by_cases ha:Ft a=true
 ·rw [ha,Bool.not_true,cond_false,e2,Bh]
  by_cases hk:Ft k=true
  ·rw [hk,Bool.not_true,cond_false]
   by_cases h1:step≥1
   ·rw [dF (show ¬step<1 by omega),cond_false]
    by_cases h2:step≤64
    ·rw [dF (show ¬step>64 by omega)];rw [dT (show Jk a k step from ⟨ha,hk,h1,h2⟩)] at hd;rw [← hd];rfl
    ·rw [dT (show step>64 by omega)];rw [dF (show ¬Jk a k step from fun h=>h2 h.2.2.2)] at hd;rw [← hd];rfl
   ·rw [dT (show step<1 by omega)];rw [dF (show ¬Jk a k step from fun h=>h1 h.2.2.1)] at hd;rw [← hd];rfl
  ·rw [show Ft k=false by simpa using hk];rw [dF (show ¬Jk a k step from fun h=>hk h.2.1)] at hd;rw [← hd];rfl
 ·rw [show Ft a=false by simpa using ha];rw [dF (show ¬Jk a k step from fun h=>ha h.1)] at hd;rw [← hd];rfl
theorem rowP (a k:Tn) (step:Int) (ia:inI a.2) (ik:inI k.2):f95 a k step=some (rowS a k step):=by
 unfold f95 f95_j3 rowS
 rw [row_j4,Bh]
 by_cases h:Jk a k step
 ·rw [dT h,if_pos h,Bool.not_true,cond_false,row_j5,Bh]
  by_cases f:Jx a k
  ·rw [dT f,if_pos f,Bool.not_true,cond_false,Bh,Fq]
   obtain ⟨ga,gk,t1,t64⟩:=h
   obtain ⟨f1,f2,f3,f4⟩:=f
   obtain ⟨c,L,ea,c1,L1,la,ba⟩:=Gy ga f1
   obtain ⟨o,c',w,ek,o1,_,w1,lk,bk⟩:=ker_nat gk f2
   obtain ⟨s,rfl⟩:=Int.eq_ofNat_of_zero_le (show 0≤step by omega)
   generalize a.2=A at *
   generalize k.2=K at *
   subst ea ek
   have fc:(c':Int)=(c:Int):=f3
   have fc':c'=c:=by omega
   subst fc'
   have fw:(w:Int)≤(L:Int):=f4
   have s1:1≤s:=by omega
   have s64:s≤64:=by omega
   have hL:L≤4096:=Nat.le_trans (Nat.le_mul_of_pos_left _ c1) ba
   rw [D4 (by simp),D4 (by simp),D4 (by simp)]
   have eW:f133 (rd (0:Int) [(c':Int),(L:Int)] 1) (rd (0:Int) [(o:Int),(c':Int),(w:Int)] 2) (s:Int)=some (F7 L w s:Int):=winP L w s (by omega) (by omega) s1
   rw [eW,Bh,D4 (by simp),of_ok,Bh]
   show _=some (if 0<prd [(o:Int),(F7 L w s:Int)] then (0,[(o:Int),(F7 L w s:Int)],F8 (o*F7 L w s) (rowV A K c' L w s)) else (2,[],[]))
   rw [show rd (0:Int) [(o:Int),(c':Int),(w:Int)] 0=(o:Int) from rfl]
   by_cases n0:0<prd [(o:Int),(F7 L w s:Int)]
   ·have hp:=(prod2 n0).2.2
    have eN:(prd [(o:Int),(F7 L w s:Int)]).toNat=o*F7 L w s:=by rw [hp,← Int.natCast_mul,Int.toNat_natCast]
    rw [if_pos n0,if_pos n0,eN,nF rfl,cond_false]
    simp only
    rw [row_loopP A K c' L o w s c1 w1 la lk ba bk (by omega) s1 s64 ia ik o1 n0,Bh]
   ·rw [if_neg n0,if_neg n0,nT (by decide:¬(2:Int)=0)];rfl
  ·rw [dF f,if_neg f];rfl
 ·rw [dF h,if_neg h];rfl
theorem rowR (a k:Tn) (step:Int) (ia:inI a.2) (ik:inI k.2):f108 a k step=some (rowS a k step):=by
 unfold f108 f108_j2 rowS
 rw [row_j3,Bh]
 by_cases h:Jk a k step
 ·rw [dT h,if_pos h,Bool.not_true,cond_false,Bh,Fq]
  unfold f108_j5
  rw [row_j6,Bh]
  by_cases f:Jx a k
  ·rw [dT f,if_pos f,Bool.not_true,cond_false,Bh,Fq]
   obtain ⟨ga,gk,t1,t64⟩:=h
   obtain ⟨f1,f2,f3,f4⟩:=f
   obtain ⟨c,L,ea,c1,L1,la,ba⟩:=Gy ga f1
   obtain ⟨o,c',w,ek,o1,_,w1,lk,bk⟩:=ker_nat gk f2
   obtain ⟨s,rfl⟩:=Int.eq_ofNat_of_zero_le (show 0≤step by omega)
   generalize a.2=A at *
   generalize k.2=K at *
   subst ea ek
   have fc:(c':Int)=(c:Int):=f3
   have fc':c'=c:=by omega
   subst fc'
   have fw:(w:Int)≤(L:Int):=f4
   have s1:1≤s:=by omega
   have s64:s≤64:=by omega
   have hL:L≤4096:=Nat.le_trans (Nat.le_mul_of_pos_left _ c1) ba
   rw [D4 (by simp),D4 (by simp),D4 (by simp),D4 (by simp),D4]
   have eW:IntKind.i64.wrap (IntKind.i64.wrap (Int.tdiv (IntKind.i64.wrap (rd (0:Int) [(c':Int),(L:Int)] 1-rd (0:Int) [(o:Int),(c':Int),(w:Int)] 2)) (s:Int))+1)=(F7 L w s:Int):=win_eq L w s (by omega) (by omega)
   rw [eW,show rd (0:Int) [(o:Int),(c':Int),(w:Int)] 0=(o:Int) from rfl,goodR,Bh]
   show _=some (if 0<prd [(o:Int),(F7 L w s:Int)] then (0,[(o:Int),(F7 L w s:Int)],F8 (o*F7 L w s) (rowV A K c' L w s)) else (2,[],[]))
   by_cases n0:0<prd [(o:Int),(F7 L w s:Int)]
   ·have hp:=(prod2 n0).2.2
    have eN:(prd [(o:Int),(F7 L w s:Int)]).toNat=o*F7 L w s:=by rw [hp,← Int.natCast_mul,Int.toNat_natCast]
    rw [dT (show prd [(o:Int),(F7 L w s:Int)]>0 from n0),if_pos n0,Bool.not_true,cond_false,newR _ _ n0,Bh,eN]
    simp only
    rw [row_loopR A K c' L o w s c1 w1 la lk ba bk (by omega) s1 s64 ia ik o1 n0,Bh]
   ·rw [dF (show ¬prd [(o:Int),(F7 L w s:Int)]>0 from n0),if_neg n0];rfl
  ·rw [dF f,if_neg f];rfl
 ·rw [dF h,if_neg h];rfl
end Go.Proofs.Cv
namespace Go.Proofs.PlM
open Go.AM Go.Proofs.PlB Go.Proofs.PlW Go.Proofs.PlT
structure Mat (n m:Int):Prop where
 n1:1≤n
 n2:n≤4096
 m1:1≤m
 m2:m≤4096
 p:n*m≤4096
theorem Mat.prd {n m:Int} (h:Mat n m):prd [n,m]=n*m:=by
 obtain ⟨h1,h2,h3,h4,h5⟩:=h
 rw [prd_two,iNo]
theorem Mat.pos {n m:Int} (h:Mat n m):0<n*m:=Int.mul_pos (by have:=h.n1;omega) (by have:=h.m1;omega)
theorem Mat.swap {n m:Int} (h:Mat n m):Mat m n:=⟨h.m1,h.m2,h.n1,h.n2,by rw [Int.mul_comm];exact h.p⟩
theorem Mat.of {n m:Int} (h:0<PlB.prd [n,m]):Mat n m:=by
 rw [prd_two] at h
 split at h
 ·omega
 ·rename_i h';exact ⟨by omega,by omega,by omega,by omega,by omega⟩
theorem rd0 (a b:Int):rd (0:Int) [a,b] 0=a:=rfl
theorem rd1 (a b:Int):rd (0:Int) [a,b] 1=b:=rfl
theorem place_ok (n m q:Int) (h:Mat n m) (q0:0≤q) (q1:q<n*m):f119 [n,m] q=some (true,[q/m,q%m]):=by
 have hp:=h.pos
 obtain ⟨h1,h2,h3,h4,h5⟩:=h
 have hd:q/m<n:=Int.ediv_lt_of_lt_mul (by omega) q1
 have hd0:0≤q/m:=Int.ediv_nonneg q0 (by omega)
 have hm0:0≤q%m:=Int.emod_nonneg _ (by omega)
 have hm1:q%m<m:=Int.emod_lt_of_pos _ (by omega)
 have hj:f119_j1 [n,m] q=some (Sum.inl ()):=by
  unfold f119_j1
  rw [show decide (q<0)=false by simp;omega,PlB.size_ok,prd_two,iNo]
  simp only [cond_false,Bh]
  rw [show decide (q≥n*m)=false by simp;omega]
  rfl
 have s1:∀ go,f119_l2 [n,m] go q 1 [0,0]=go (q/m,0,[0,q%m]):=fun go=>by
  unfold f119_l2
  rw [show decide ((1:Int)≥0)=true from rfl]
  simp only [cond_true]
  have hr:rd (0:Int) [n,m] 1≠0:=by rw [rd1];omega
  rw [D4 (by simp),D4 hr,D4 (by simp),D4 (by simp),D4 hr,rd1,Int.tdiv_eq_ediv_of_nonneg q0,Int.tmod_eq_emod_of_nonneg q0,Fl]
  rfl
 have s2:∀ go,f119_l2 [n,m] go (q/m) 0 [0,q%m]=go (IntKind.i64.wrap (q/m/n),-1,[q/m,q%m]):=fun go=>by
  unfold f119_l2
  rw [show decide ((0:Int)≥0)=true from rfl]
  simp only [cond_true]
  have hr:rd (0:Int) [n,m] 0≠0:=by rw [rd0];omega
  rw [D4 (by simp),D4 hr,D4 (by simp),D4 (by simp),D4 hr,rd0,Int.tdiv_eq_ediv_of_nonneg hd0,Int.tmod_eq_emod_of_nonneg hd0,Int.emod_eq_of_lt hd0 hd]
  rfl
 have s3:∀ go x l,f119_l2 [n,m] go x (-1) l=some l:=fun go x l=>by
  unfold f119_l2
  rw [show decide ((-1:Int)≥0)=false from rfl]
  rfl
 have hloop:Fp (fun go (x:Int×Int×List Int)=>f119_l2 [n,m] go x.1 x.2.1 x.2.2) Fv (q,1,[0,0])=some [q/m,q%m]:=by
  rw [lf1]
  simp only
  rw [s1,lf2]
  simp only
  rw [s2,lf3]
  exact s3 _ _ _
 unfold f119
 rw [hj]
 simp only [Bh,Fq]
 rw [D4 (by simp)]
 exact (congrArg (fun t=>Ey t fun z4=>some (true,z4)) hloop)
theorem at_ok (n m x y:Int) (h:Mat n m) (x0:0≤x) (x1:x<n) (y0:0≤y) (y1:y<m):f120 [n,m] [x,y]=some (x*m+y,true)∧0≤x*m+y∧x*m+y<n*m:=by
 have hp:=h.pos
 have hpr:=h.prd
 obtain ⟨h1,h2,h3,h4,h5⟩:=h
 have hx0:0≤x*m:=Int.mul_nonneg x0 (by omega)
 have hx1:(x+1)*m≤n*m:=Int.mul_le_mul_of_nonneg_right (by omega) (by omega)
 rw [Int.add_mul,Int.one_mul] at hx1
 refine ⟨?_,by omega,by omega⟩
 have hj:f120_j1 [n,m] [x,y]=some (Sum.inl ()):=by
  unfold f120_j1
  rw [Gp,hpr,show decide (n*m>0)=true by simpa using hp]
  rfl
 have s1:∀ go,f120_l4 [n,m] [x,y] go 0 0=go (x,1):=fun go=>by
  unfold f120_l4
  rw [show decide ((0:Int)<(List.length [x,y]:Int))=true from rfl]
  simp only [cond_true]
  rw [D4 (by simp)]
  have hj5:f120_j5 [n,m] [x,y] 0=some (Sum.inl ()):=by
   unfold f120_j5
   rw [show decide (rd (0:Int) [x,y] 0<0)=false from decide_eq_false (by rw [rd0];omega)]
   simp only [cond_false]
   rw [D4 (by simp),show decide (rd (0:Int) [x,y] 0≥rd (0:Int) [n,m] 0)=false from decide_eq_false (by rw [rd0,rd0];omega)]
   rfl
  rw [hj5]
  simp only [Bh,Fq]
  rw [D4 (by simp),rd0,rd0,Int.zero_mul,show IntKind.i64.wrap 0=0 from rfl,Int.zero_add,Fl]
  rfl
 have s2:∀ go,f120_l4 [n,m] [x,y] go x 1=go (x*m+y,2):=fun go=>by
  unfold f120_l4
  rw [show decide ((1:Int)<(List.length [x,y]:Int))=true from rfl]
  simp only [cond_true]
  rw [D4 (by simp)]
  have hj5:f120_j5 [n,m] [x,y] 1=some (Sum.inl ()):=by
   unfold f120_j5
   rw [show decide (rd (0:Int) [x,y] 1<0)=false from decide_eq_false (by rw [rd1];omega)]
   simp only [cond_false]
   rw [D4 (by simp),show decide (rd (0:Int) [x,y] 1≥rd (0:Int) [n,m] 1)=false from decide_eq_false (by rw [rd1,rd1];omega)]
   rfl
  rw [hj5]
  simp only [Bh,Fq]
  rw [D4 (by simp),rd1,rd1,Fl (n:=x*m) (by omega) (by omega),Fl (n:=x*m+y) (by omega) (by omega)]
  rfl
 have s3:∀ go z,f120_l4 [n,m] [x,y] go z 2=some (Sum.inr z):=fun go z=>by
  unfold f120_l4
  rw [show decide ((2:Int)<(List.length [x,y]:Int))=false from rfl]
  rfl
 unfold f120
 rw [hj]
 simp only [Bh,Fq]
 have hloop:Fp (fun go (z:Int×Int)=>f120_l4 [n,m] [x,y] go z.1 z.2) Fv (0,0)=some (Sum.inr (x*m+y)):=by
  rw [lf1]
  simp only
  rw [s1,lf2]
  simp only
  rw [s2,lf3]
  exact s3 _ _
 rw [hloop]
 rfl
def flipV (n m:Nat) (V:List Int) (q:Nat):Int:=V.getD ((q%n)*m+q/n) 0
theorem flip_at (n m q:Nat) (hn:0<n) (hq:q<m*n):(q%n)*m+q/n<n*m:=by
 have h1:q%n<n:=Nat.mod_lt _ hn
 have h2:q/n<m:=Nat.div_lt_of_lt_mul (by rw [Nat.mul_comm];exact hq)
 have:(q%n+1)*m≤n*m:=Nat.mul_le_mul_right _ h1
 rw [Nat.add_mul] at this;omega
theorem turn_ok (n m:Nat) (V:List Int) (h:Mat n m) (hV:V.length=n*m):f118 ([(n:Int),(m:Int)],V) [1,0]=some (0,[(m:Int),(n:Int)],(List.range (m*n)).map (flipV n m V)):=by
 have hp:=h.pos
 have hpr:=h.prd
 have hs:=h.swap
 obtain ⟨h1,h2,h3,h4,h5⟩:=h
 have hnm:((n*m:Nat):Int)=(n:Int)*(m:Int):=by simp
 have hmn:((m*n:Nat):Int)=(n:Int)*(m:Int):=by rw [Nat.mul_comm];simp
 have hg:Ft ([(n:Int),(m:Int)],V)=true:=by
  simp only [Ft,hpr,hV,hnm]
  simp;omega
 have hj:f118_j2 ([(n:Int),(m:Int)],V) [1,0]=some (Sum.inl ()):=by
  unfold f118_j2 f118_j3
  simp only [F4,hg,Bh,Bool.not_true,cond_false,List.length_cons,List.length_nil]
  rw [show f152 [1,0] (((0+1+1:Nat):Int))=some true by kernel_rfl]
  rfl
 unfold f118
 rw [hj]
 simp only [Bh,Fq]
 rw [D4 (by simp)]
 have hz:Fp (fun go (x:Int×List Int)=>f118_l4 ([(n:Int),(m:Int)],V) [1,0] go x.1 x.2) Fv ((0:Int),List.replicate (Int.toNat (List.length [(1:Int),0]:Int)) 0)=some [(m:Int),(n:Int)]:=by
  rw [lf1];rfl
 rw [hz]
 simp only [Bh]
 rw [K3,hs.prd,if_pos hs.pos]
 simp only [Bh]
 have e1:((m:Int)*(n:Int)).toNat=m*n:=by rw [← Int.natCast_mul];rfl
 rw [e1]
 have H:∀ x:Int×List Int,(∃ k:Nat,x=((k:Int),Jt (flipV n m V) k (m*n))∧k≤m*n)→
   (∃ z,(∀ go,f118_l7 ([(n:Int),(m:Int)],V) [1,0] [(m:Int),(n:Int)] (0,[(m:Int),(n:Int)],List.replicate (m*n) 0) go x.1 x.2=some z)∧z=(List.range (m*n)).map (flipV n m V))∨
   (∃ y:Int×List Int,(∀ go,f118_l7 ([(n:Int),(m:Int)],V) [1,0] [(m:Int),(n:Int)] (0,[(m:Int),(n:Int)],List.replicate (m*n) 0) go x.1 x.2=go y)∧
    (∃ k:Nat,y=((k:Int),Jt (flipV n m V) k (m*n))∧k≤m*n)∧(((m*n:Nat):Int)-y.1).toNat<(((m*n:Nat):Int)-x.1).toNat):=by
  rintro _ ⟨k,rfl,hk⟩
  by_cases hlt:k<m*n
  ·right
   have hfa:=flip_at n m k (by omega) hlt
   refine ⟨(((k+1:Nat):Int),_),fun go=>?_,⟨k+1,rfl,hlt⟩,by simp only;omega⟩
   simp only [f118_l7,List.length_replicate]
   rw [show decide ((k:Int)<((m*n:Nat):Int))=true by simp only [decide_eq_true_eq];omega]
   simp only [cond_true]
   rw [place_ok (m:Int) (n:Int) (k:Int) hs (by omega) (by rw [Int.mul_comm,← hmn];omega)]
   simp only [Bh]
   rw [D4 (by simp)]
   have hin:Fp (fun go (x:Int×List Int)=>f118_l8 [1,0] (true,[(k:Int)/(n:Int),(k:Int)%(n:Int)]) go x.1 x.2) Fv ((0:Int),List.replicate (Int.toNat (List.length [(1:Int),0]:Int)) 0)=some [(k:Int)%(n:Int),(k:Int)/(n:Int)]:=by
    rw [lf1];rfl
   rw [hin]
   simp only [Bh]
   have a0:(k:Int)%(n:Int)=((k%n:Nat):Int):=by simp
   have a1:(k:Int)/(n:Int)=((k/n:Nat):Int):=by simp
   have b0:k%n<n:=Nat.mod_lt _ (by omega)
   have b1:k/n<m:=Nat.div_lt_of_lt_mul (by rw [Nat.mul_comm];exact hlt)
   rw [a0,a1]
   obtain ⟨g1,g2,g3⟩:=at_ok (n:Int) (m:Int) ((k%n:Nat):Int) ((k/n:Nat):Int) ⟨h1,h2,h3,h4,h5⟩ (Int.natCast_nonneg _) (Int.ofNat_lt.2 b0) (Int.natCast_nonneg _) (Int.ofNat_lt.2 b1)
   rw [g1]
   simp only [Bh,filled_len _ _ _ hk]
   have e2:((k%n:Nat):Int)*(m:Int)+((k/n:Nat):Int)=(((k%n)*m+k/n:Nat):Int):=by simp
   rw [e2,D4 (by rw [hV];omega),D4,Fl]
   have e3:rd (0:Int) V (((k%n)*m+k/n:Nat):Int)=flipV n m V k:=rfl
   rw [e3,Int.toNat_natCast,filled_set _ _ _ hlt]
   rfl
  ·left
   have:k=m*n:=by omega
   subst this
   refine ⟨_,fun go=>?_,filled_full _ _⟩
   simp only [f118_l7,List.length_replicate]
   rw [show decide (((m*n:Nat):Int)<((m*n:Nat):Int))=false by simp]
   rfl
 obtain ⟨z,e,rfl⟩:=Gb (B:=fun go (x:Int×List Int)=>f118_l7 ([(n:Int),(m:Int)],V) [1,0] [(m:Int),(n:Int)] (0,[(m:Int),(n:Int)],List.replicate (m*n) 0) go x.1 x.2) _ (fun x=>(((m*n:Nat):Int)-x.1).toNat) _ H
  ((0:Int),List.replicate (m*n) 0) ⟨0,by rw [filled_zero];rfl,Nat.zero_le _⟩ (by simp only;omega)
 rw [e]
 rfl
theorem flip_ok (n m:Nat) (V:List Int) (h:Mat n m) (hV:V.length=n*m):f74 ([(n:Int),(m:Int)],V)=some (0,[(m:Int),(n:Int)],(List.range (m*n)).map (flipV n m V)):=by
 have hg:Ft ([(n:Int),(m:Int)],V)=true:=by
  simp only [Ft,h.prd,hV]
  have:=h.pos
  simp;omega
 unfold f74
 simp only [F4,hg,Bh,Bool.not_true,cond_false]
 rw [show f117 ([(n:Int),(m:Int)],V)=some true from rfl]
 simp only [Bh,Bool.not_true,cond_false,turn_ok n m V h hV]
end Go.Proofs.PlM
namespace Go.Proofs.PlN
open Go.AM Go.Proofs.PlB Go.Proofs.PlW Go.Proofs.PlT Go.Proofs.PlM
def rowL (L:List Int) (k i:Nat):List Int:=(L.take ((i+1)*k)).drop (i*k)
theorem rowL_inI {L:List Int} {k i:Nat} (h:inI L):inI (rowL L k i):=fun x hx=>h x (List.mem_of_mem_take (List.mem_of_mem_drop hx))
theorem rowL_len (L:List Int) (k i:Nat):(rowL L k i).length≤k:=by
 unfold rowL
 rw [List.length_drop,List.length_take,Nat.add_mul];omega
theorem flip_inI {n m:Nat} {V:List Int} (h:inI V):inI ((List.range (m*n)).map (flipV n m V)):=by
 intro x hx
 obtain ⟨q,_,rfl⟩:=List.mem_map.1 hx
 unfold flipV
 by_cases hlt:(q%n)*m+q/n<V.length
 ·have:V.getD ((q%n)*m+q/n) 0=V[(q%n)*m+q/n]:=by simp [hlt]
  rw [this];exact h _ (List.getElem_mem hlt)
 ·have:V.getD ((q%n)*m+q/n) 0=0:=by simp [List.getElem?_eq_none (Nat.le_of_not_lt hlt)]
  rw [this];decide
def mulV (k c:Nat) (A F:List Int) (q:Nat):Int:=sat (rhe (dotS (rowL A k (q/c)) (rowL F k (q%c))))
theorem mul_ok (n k c:Nat) (A B:List Int) (h1:Mat n k) (h2:Mat k c) (hA:A.length=n*k) (hB:B.length=k*c) (iA:inI A) (iB:inI B) :
  f94 ([(n:Int),(k:Int)],A) ([(k:Int),(c:Int)],B)=some (if 0<prd [(n:Int),(c:Int)] then (0,[(n:Int),(c:Int)],(List.range (n*c)).map (mulV k c A ((List.range (c*k)).map (flipV k c B)))) else (2,[],[])):=by
 have hg1:Ft ([(n:Int),(k:Int)],A)=true:=by
  simp only [Ft,h1.prd,hA]
  have:=h1.pos
  simp;omega
 have hg2:Ft ([(k:Int),(c:Int)],B)=true:=by
  simp only [Ft,h2.prd,hB]
  have:=h2.pos
  simp;omega
 have hj:f94_j3 ([(n:Int),(k:Int)],A) ([(k:Int),(c:Int)],B)=some (Sum.inl ()):=by
  unfold f94_j3 f94_j4 f94_j5
  simp only [F4,hg1,hg2,Bh,Bool.not_true,cond_false]
  rw [show f117 ([(n:Int),(k:Int)],A)=some true from rfl,show f117 ([(k:Int),(c:Int)],B)=some true from rfl]
  simp only [Bh,Bool.not_true,cond_false,rd0,rd1]
  rw [D4 (by simp),D4 (by simp),show ((k:Int) != (k:Int))=false by simp]
  rfl
 unfold f94
 rw [hj]
 simp only [Bh,Fq,rd0,rd1]
 rw [D4 (by simp),D4 (by simp),D4 (by simp),K3]
 by_cases hp:0<prd [(n:Int),(c:Int)]
 ·rw [if_pos hp,if_pos hp]
  have h3:=Mat.of hp
  simp only [Bh]
  rw [show ((0:Int) != 0)=false from rfl]
  simp only [cond_false]
  rw [flip_ok k c B h2 hB]
  simp only [Bh]
  obtain ⟨n1,n2,k1,k2,nk⟩:=h1
  obtain ⟨_,_,c1,c2,kc⟩:=h2
  have nc:=h3.p
  generalize hF:(List.range (c*k)).map (flipV k c B)=F
  have lF:F.length=c*k:=by rw [← hF];simp
  have iF:inI F:=by rw [← hF];exact flip_inI iB
  generalize hg:mulV k c A F=g
  have e1:(prd [(n:Int),(c:Int)]).toNat=n*c:=by rw [h3.prd,← Int.natCast_mul];rfl
  rw [e1]
  have nk':((n*k:Nat):Int)=(n:Int)*(k:Int):=by simp
  have ck':((c*k:Nat):Int)=(k:Int)*(c:Int):=by rw [Nat.mul_comm];simp
  have nc':((n*c:Nat):Int)=(n:Int)*(c:Int):=by simp
  have Km:∀ i:Nat,i<n→Fp (fun go (x:Int×List Int)=>f94_l9 ([(n:Int),(k:Int)],A) ([(k:Int),(c:Int)],B) (0,[(c:Int),(k:Int)],F) (i:Int) go x.1 x.2) Fv ((0:Int),Jt g (i*c) (n*c))=some (Jt g ((i+1)*c) (n*c)):=by
   intro i hi
   have hic:(i+1)*c≤n*c:=Nat.mul_le_mul_right _ hi
   have hik:(i+1)*k≤n*k:=Nat.mul_le_mul_right _ hi
   have hick:((i*k:Nat):Int)=(i:Int)*(k:Int):=by simp
   have hick1:(((i+1)*k:Nat):Int)=((i:Int)+1)*(k:Int):=by simp
   have hic':((i*c:Nat):Int)=(i:Int)*(c:Int):=by simp
   rw [Nat.add_mul,Nat.one_mul] at hic
   have H:∀ x:Int×List Int,(∃ j:Nat,x=((j:Int),Jt g (i*c+j) (n*c))∧j≤c)→
     (∃ z,(∀ go,f94_l9 ([(n:Int),(k:Int)],A) ([(k:Int),(c:Int)],B) (0,[(c:Int),(k:Int)],F) (i:Int) go x.1 x.2=some z)∧z=Jt g ((i+1)*c) (n*c))∨
     (∃ y:Int×List Int,(∀ go,f94_l9 ([(n:Int),(k:Int)],A) ([(k:Int),(c:Int)],B) (0,[(c:Int),(k:Int)],F) (i:Int) go x.1 x.2=go y)∧(∃ j:Nat,y=((j:Int),Jt g (i*c+j) (n*c))∧j≤c)∧((c:Int)-y.1).toNat<((c:Int)-x.1).toNat):=by
    rintro _ ⟨j,rfl,hj⟩
    by_cases hlt:j<c
    ·right
     have hjk:(j+1)*k≤c*k:=Nat.mul_le_mul_right _ hlt
     have hjck:((j*k:Nat):Int)=(j:Int)*(k:Int):=by simp
     have hjck1:(((j+1)*k:Nat):Int)=((j:Int)+1)*(k:Int):=by simp
     have hj1:j*k≤(j+1)*k:=Nat.mul_le_mul_right _ (by omega)
     have hi1:i*k≤(i+1)*k:=Nat.mul_le_mul_right _ (by omega)
     refine ⟨(((j+1:Nat):Int),_),fun go=>?_,⟨j+1,rfl,hlt⟩,by simp only;omega⟩
     simp only [f94_l9]
     rw [rd1 (n:Int) (k:Int),rd1 (k:Int) (c:Int),show decide ((j:Int)<(c:Int))=true by simpa using hlt]
     simp only [cond_true]
     rw [Fl (n:=(i:Int)+1) (by omega) (by omega),Fl (n:=(j:Int)+1) (by omega) (by omega),← hick,← hick1,← hjck,← hjck1,← hic']
     rw [Fl (n:=((i*k:Nat):Int)) (by omega) (by omega),Fl (n:=(((i+1)*k:Nat):Int)) (by omega) (by omega),Fl (n:=((j*k:Nat):Int)) (by omega) (by omega),Fl (n:=(((j+1)*k:Nat):Int)) (by omega) (by omega),
      Fl (n:=((i*c:Nat):Int)) (by omega) (by omega),Fl (n:=((i*c:Nat):Int)+(j:Int)) (by omega) (by omega)]
     rw [D4 (by rw [hA];omega),D4 (by rw [lF];omega)]
     simp only [Int.toNat_natCast]
     have hdot:f140 (List.drop (i*k) (List.take ((i+1)*k) A)) (List.drop (j*k) (List.take ((j+1)*k) F))=some (g (i*c+j)):=by
      have:=dot_ok (rowL A k i) (rowL F k j) (rowL_inI iA) (rowL_inI iF) (.inl (by have:=rowL_len A k i;omega))
      rw [← hg]
      unfold mulV
      have q1:(i*c+j)/c=i:=by rw [Nat.mul_comm,Nat.mul_add_div (by omega),Nat.div_eq_of_lt hlt,Nat.add_zero]
      have q2:(i*c+j)%c=j:=by rw [Nat.mul_comm,Nat.mul_add_mod,Nat.mod_eq_of_lt hlt]
      rw [q1,q2]
      exact this
     rw [hdot]
     simp only [Bh,filled_len g (i*c+j) (n*c) (by omega)]
     rw [D4,show ((i*c:Nat):Int)+(j:Int)=((i*c+j:Nat):Int) by omega,Int.toNat_natCast,filled_set _ _ _ (by omega)]
     rfl
    ·left
     have:j=c:=by omega
     subst this
     refine ⟨_,fun go=>?_,by rw [Nat.add_mul,Nat.one_mul]⟩
     simp only [f94_l9]
     rw [rd1 (n:Int) (k:Int),rd1 (k:Int) (j:Int),show decide ((j:Int)<(j:Int))=false by simp]
     rfl
   obtain ⟨z,e,rfl⟩:=Gb (B:=fun go (x:Int×List Int)=>f94_l9 ([(n:Int),(k:Int)],A) ([(k:Int),(c:Int)],B) (0,[(c:Int),(k:Int)],F) (i:Int) go x.1 x.2) _ (fun x=>((c:Int)-x.1).toNat) _ H
    ((0:Int),Jt g (i*c) (n*c)) ⟨0,rfl,Nat.zero_le _⟩ (by simp only;omega)
   exact e
  have H:∀ x:Int×List Int,(∃ i:Nat,x=((i:Int),Jt g (i*c) (n*c))∧i≤n)→
    (∃ z,(∀ go,f94_l8 ([(n:Int),(k:Int)],A) ([(k:Int),(c:Int)],B) (0,[(c:Int),(k:Int)],F) go x.1 x.2=some z)∧z=(List.range (n*c)).map g)∨
    (∃ y:Int×List Int,(∀ go,f94_l8 ([(n:Int),(k:Int)],A) ([(k:Int),(c:Int)],B) (0,[(c:Int),(k:Int)],F) go x.1 x.2=go y)∧(∃ i:Nat,y=((i:Int),Jt g (i*c) (n*c))∧i≤n)∧((n:Int)-y.1).toNat<((n:Int)-x.1).toNat):=by
   rintro _ ⟨i,rfl,hi⟩
   by_cases hlt:i<n
   ·right
    refine ⟨(((i+1:Nat):Int),_),fun go=>?_,⟨i+1,rfl,hlt⟩,by simp only;omega⟩
    simp only [f94_l8]
    rw [rd0,show decide ((i:Int)<(n:Int))=true by simpa using hlt]
    simp only [cond_true]
    rw [Km i hlt]
    simp only [Bh]
    rw [Fl]
    rfl
   ·left
    have:i=n:=by omega
    subst this
    refine ⟨_,fun go=>?_,filled_full _ _⟩
    simp only [f94_l8]
    rw [rd0,show decide ((i:Int)<(i:Int))=false by simp]
    rfl
  obtain ⟨z,e,rfl⟩:=Gb (B:=fun go (x:Int×List Int)=>f94_l8 ([(n:Int),(k:Int)],A) ([(k:Int),(c:Int)],B) (0,[(c:Int),(k:Int)],F) go x.1 x.2) _ (fun x=>((n:Int)-x.1).toNat) _ H
   ((0:Int),List.replicate (n*c) 0) ⟨0,by rw [Nat.zero_mul,filled_zero];rfl,Nat.zero_le _⟩ (by simp only;omega)
  rw [e]
  rfl
 ·rw [if_neg hp,if_neg hp]
  rfl
end Go.Proofs.PlN
namespace Go.Proofs.Matm
open Go.AM Go.Proofs.PlB Go.Proofs.PlW Go.Proofs.PlT Go.Proofs.PlM Go.Proofs.PlN
theorem rowL_map (L:List Int) (k i:Nat) (h:(i+1)*k≤L.length):rowL L k i=(List.range k).map (fun q=>L.getD (i*k+q) 0):=by
 unfold rowL
 apply List.ext_getElem
 ·rw [List.length_drop,List.length_take,List.length_map,List.length_range,Nat.add_mul]
  rw [Nat.add_mul] at h;omega
 ·intro q h1 h2
  rw [List.length_map,List.length_range] at h2
  rw [Nat.add_mul] at h
  simp only [List.getElem_drop,List.getElem_take,List.getElem_map,List.getElem_range]
  simp [List.getElem?_eq_getElem (show i*k+q<L.length by omega)]
theorem flipL_get (n m:Nat) (V:List Int) (q:Nat) (h:q<m*n):((List.range (m*n)).map (flipV n m V)).getD q 0=flipV n m V q:=by
 simp [h]
theorem col_map (k c j:Nat) (B:List Int) (hk:0<k) (hj:j<c):rowL ((List.range (c*k)).map (flipV k c B)) k j=(List.range k).map (fun q=>B.getD (q*c+j) 0):=by
 have hjk:(j+1)*k≤c*k:=Nat.mul_le_mul_right _ hj
 rw [rowL_map _ _ _ (by simpa using hjk)]
 apply List.map_congr_left
 intro q hq
 have hq:=List.mem_range.1 hq
 rw [Nat.add_mul,Nat.one_mul] at hjk
 rw [flipL_get _ _ _ _ (by omega)]
 unfold flipV
 have q1:(j*k+q)/k=j:=by rw [Nat.mul_comm,Nat.mul_add_div hk,Nat.div_eq_of_lt hq,Nat.add_zero]
 have q2:(j*k+q)%k=q:=by rw [Nat.mul_comm,Nat.mul_add_mod,Nat.mod_eq_of_lt hq]
 rw [q1,q2]
end Go.Proofs.Matm
namespace Go.Proofs.Cv
open Go.AM Go.Proofs.PlB Go.Proofs.PlW Go.Proofs.PlT Go.Proofs.PlS Go.Proofs.Sh Go.Proofs.Num Go.Proofs.Div Go.Proofs.Op
def mmF (A B:List Int) (k c i j t:Nat):Int:=rd (0:Int) A ((i*k+t:Nat):Int)*rd (0:Int) B ((t*c+j:Nat):Int)
def mmV (A B:List Int) (k c q:Nat):Int:=sat (rhe (sg (mmF A B k c (q/c) (q%c)) k))
theorem dotS_snoc:∀ (a b:List Int) (x y:Int),a.length=b.length→dotS (a++[x]) (b++[y])=dotS a b+x*y
 | [],[],x,y,_=>by simp [dotS]
 | u::a,v::b,x,y,h=>by
  have:=dotS_snoc a b x y (by simpa using h)
  simp only [List.cons_append,dotS]
  rw [this];omega
 | [],_::_,_,_,h=>absurd h (by simp)
 | _::_,[],_,_,h=>absurd h (by simp)
theorem dotS_map (f g:Nat→Int):∀ k,dotS ((List.range k).map f) ((List.range k).map g)=sg (fun t=>f t*g t) k
 | 0=>rfl
 | k+1=>by
  rw [List.range_succ,List.map_append,List.map_append]
  show dotS (_++[f k]) (_++[g k])=_
  rw [dotS_snoc _ _ _ _ (by simp),dotS_map f g k];rfl
theorem rd_getD (l:List Int) (i:Nat) (h:i<l.length):rd (0:Int) l (i:Int)=l.getD i 0:=by
 rw [Gi _ _ _ h];simp [List.getD,h]
section
variable (A B:List Int) (n k c:Nat) (n1:1≤n) (k1:1≤k) (c1:1≤c) (hA:A.length=n*k) (hB:B.length=k*c) (bA:n*k≤4096) (bB:k*c≤4096) (iA:inI A) (iB:inI B)
include n1 k1 c1 hA hB bA bB iA iB
theorem mm_a {i t:Nat} (hi:i<n) (ht:t<k):i*k+t<A.length:=by rw [hA];exact Jf hi ht
theorem mm_b {j t:Nat} (hj:j<c) (ht:t<k):t*c+j<B.length:=by rw [hB];exact Jf ht hj
theorem mm_p {i j:Nat} (hi:i<n) (hj:j<c) (t:Nat) (ht:t<k):Pb (mmF A B k c i j t):=
 pb_mul (rdIn iA (mm_a A B n k c n1 k1 c1 hA hB bA bB iA iB hi ht)) (rdIn iB (mm_b A B n k c n1 k1 c1 hA hB bA bB iA iB hj ht))
theorem mm_k:k≤4096:=Nat.le_trans (Nat.le_mul_of_pos_left _ n1) bA
theorem mm_matA:PlM.Mat n k:=⟨by omega,by have:n≤n*k:=Nat.le_mul_of_pos_right _ k1;omega,by omega,by have:=mm_k A B n k c n1 k1 c1 hA hB bA bB iA iB;omega,by rw [← Int.natCast_mul];omega⟩
theorem mm_matB:PlM.Mat k c:=⟨by omega,by have:=mm_k A B n k c n1 k1 c1 hA hB bA bB iA iB;omega,by omega,by have:c≤k*c:=Nat.le_mul_of_pos_left _ k1;omega,by rw [← Int.natCast_mul];omega⟩
theorem mm_okP:f94 ([(n:Int),(k:Int)],A) ([(k:Int),(c:Int)],B)=some (if 0<prd [(n:Int),(c:Int)] then (0,[(n:Int),(c:Int)],F8 (n*c) (mmV A B k c)) else (2,[],[])):=by
 rw [PlN.mul_ok n k c A B (mm_matA A B n k c n1 k1 c1 hA hB bA bB iA iB) (mm_matB A B n k c n1 k1 c1 hA hB bA bB iA iB) hA hB iA iB]
 have e:(List.range (n*c)).map (PlN.mulV k c A ((List.range (c*k)).map (PlM.flipV k c B)))=F8 (n*c) (mmV A B k c):=by
  refine Gd _ _ _ (fun q hq=>?_)
  have hi:q/c<n:=Nat.div_lt_of_lt_mul (by rw [Nat.mul_comm];exact hq)
  have hj:q%c<c:=Nat.mod_lt _ c1
  unfold PlN.mulV mmV
  rw [Matm.rowL_map A k (q/c) (by rw [hA];exact Nat.mul_le_mul_right _ hi),Matm.col_map k c (q%c) B k1 hj,dotS_map]
  congr 2
 rw [e]
theorem mm_sumR (i j:Nat) (hi:i<n) (hj:j<c) :
  ∃ z,Fp (fun go (x:Int×Bool×Int×Int×Int×Int)=>f36_l19 ([(n:Int),(k:Int)],A) ([(k:Int),(c:Int)],B) (i:Int) (j:Int) go x.1 x.2.1 x.2.2.1 x.2.2.2.1 x.2.2.2.2.1 x.2.2.2.2.2) Fv ((0:Int),false,(0:Int),(0:Int),(0:Int),(0:Int))=some z∧Nm (sg (mmF A B k c i j) k) z:=by
 have hk:=mm_k A B n k c n1 k1 c1 hA hB bA bB iA iB
 have h:=refdot (B:=fun go (x:Int×Bool×Int×Int×Int×Int)=>f36_l19 ([(n:Int),(k:Int)],A) ([(k:Int),(c:Int)],B) (i:Int) (j:Int) go x.1 x.2.1 x.2.2.1 x.2.2.2.1 x.2.2.2.2.1 x.2.2.2.2.2)
  (mmF A B k c i j) 0 k (fun t=>rd (0:Int) A ((i*k+t:Nat):Int)) (fun t=>rd (0:Int) B ((t*c+j:Nat):Int)) (by omega) (fun t ht=>by rw [Nat.zero_add];rfl)
  (fun t ht=>rdIn iA (mm_a A B n k c n1 k1 c1 hA hB bA bB iA iB hi ht)) (fun t ht=>rdIn iB (mm_b A B n k c n1 k1 c1 hA hB bA bB iA iB hj ht)) (fun t ht=>mm_p A B n k c n1 k1 c1 hA hB bA bB iA iB hi hj t (by omega)) (by
   intro t ht z go
   have ha:=mm_a A B n k c n1 k1 c1 hA hB bA bB iA iB hi ht
   have hb:=mm_b A B n k c n1 k1 c1 hA hB bA bB iA iB hj ht
   unfold f36_l19
   simp only
   rw [show rd (0:Int) [(n:Int),(k:Int)] 1=(k:Int) from rfl,show rd (0:Int) [(k:Int),(c:Int)] 1=(c:Int) from rfl,dT,cond_true,ixM i k t (by omega),ixM t c j (by omega),D4,D4,Gr t]) (by
   intro z go
   unfold f36_l19
   simp only
   rw [show rd (0:Int) [(n:Int),(k:Int)] 1=(k:Int) from rfl,dF,cond_false]) (false,0,0,0,0) nm_zero
 rw [Nat.zero_add] at h
 exact h
theorem mm_loopR (n0:0<prd [(n:Int),(c:Int)]) :
  Fp (fun go (x:Int×List Int)=>f36_l15 ([(n:Int),(k:Int)],A) ([(k:Int),(c:Int)],B) go x.1 x.2) Fv ((0:Int),List.replicate (n*c) 0)=some (F8 (n*c) (mmV A B k c)):=by
 have hp:=(prod2 n0).2.2
 have hr:=F2 [(n:Int),(c:Int)]
 have hN:((n*c:Nat):Int)≤4096:=by rw [Int.natCast_mul];omega
 have hk:=mm_k A B n k c n1 k1 c1 hA hB bA bB iA iB
 have hnN:n≤n*c:=Nat.le_mul_of_pos_right _ c1
 have hcN:c≤n*c:=Nat.le_mul_of_pos_left _ n1
 rw [Gf _ (mmV A B k c)]
 have h:=F3 (B:=fun go (x:Int×List Int)=>f36_l15 ([(n:Int),(k:Int)],A) ([(k:Int),(c:Int)],B) go x.1 x.2) (fun i=>((i:Int),J8 (n*c) (i*c) (mmV A B k c))) n (F8 (n*c) (mmV A B k c)) ?_ ?_ (by omega)
 ·rw [Nat.zero_mul] at h;exact h
 ·intro i hi go
  unfold f36_l15
  simp only
  have Km:=F3 (B:=fun go (x:Int×List Int)=>f36_l18 ([(n:Int),(k:Int)],A) ([(k:Int),(c:Int)],B) (i:Int) go x.1 x.2) (fun j=>((j:Int),J8 (n*c) (i*c+j) (mmV A B k c))) c (J8 (n*c) ((i+1)*c) (mmV A B k c)) ?_ ?_ (by omega)
  ·rw [Nat.add_zero] at Km
   have inner':Fp (fun go (x:Int×List Int)=>f36_l18 ([(n:Int),(k:Int)],A) ([(k:Int),(c:Int)],B) (i:Int) go x.1 x.2) Fv ((0:Int),J8 (n*c) (i*c) (mmV A B k c))=_:=Km
   rw [show rd (0:Int) [(n:Int),(k:Int)] 0=(n:Int) from rfl,dT,cond_true,inner',Bh,Gr i]
  ·intro j hj go
   have hq:=Jf (c:=n) hi hj
   obtain ⟨d1,d2⟩:=Ko (x:=i) hj
   obtain ⟨z,ez,hz⟩:=mm_sumR A B n k c n1 k1 c1 hA hB bA bB iA iB i j hi hj
   obtain ⟨y,ey,hy⟩:=ref_end hz (sg_sm _ _ hk (fun t ht=>mm_p A B n k c n1 k1 c1 hA hB bA bB iA iB hi hj t ht))
   unfold f36_l18
   simp only [F5]
   rw [show rd (0:Int) [(k:Int),(c:Int)] 1=(c:Int) from rfl,dT,cond_true,ez,Bh,ey,Bh,hy,Bh,
    ixM i c j (by omega),D4,Int.toNat_natCast,Gr j]
   have:=Gu (n*c) (i*c+j) (mmV A B k c) (sat (rhe (sg (mmF A B k c i j) k))) hq (by unfold mmV;rw [d1,d2])
   rw [this]
   rfl
  ·intro go
   unfold f36_l18
   simp only
   rw [show rd (0:Int) [(k:Int),(c:Int)] 1=(c:Int) from rfl,dF,cond_false,Nat.add_mul,Nat.one_mul]
 ·intro go
  unfold f36_l15
  simp only
  rw [show rd (0:Int) [(n:Int),(k:Int)] 0=(n:Int) from rfl,dF,cond_false,Gg]
end
abbrev K4 (a b:Tn):Prop:=a.1.length=2∧b.1.length=2∧rd (0:Int) a.1 1=rd (0:Int) b.1 0
abbrev G1 (a b:Tn):Prop:=Ft a=true∧Ft b=true
def mmS (a b:Tn):Int×Tn:=
 if G1 a b then
  if K4 a b then
   if 0<prd [rd (0:Int) a.1 0,rd (0:Int) b.1 1] then (0,[rd (0:Int) a.1 0,rd (0:Int) b.1 1],F8 ((rd (0:Int) a.1 0).toNat*(rd (0:Int) b.1 1).toNat) (mmV a.2 b.2 (rd (0:Int) a.1 1).toNat (rd (0:Int) b.1 1).toNat))
   else (2,[],[])
  else (4,[],[])
 else (1,[],[])
theorem mm_j4 (a b:Tn):f94_j4 a b=some (!(decide (G1 a b))):=by
 unfold f94_j4
 have e1:f28 (a.1,a.2)=some (Ft a):=F4 a
 have e2:f28 (b.1,b.2)=some (Ft b):=F4 b
 generalize hd:decide (G1 a b)=d
 rw [e1,Bh]
 by_cases ha:Ft a=true
 ·rw [ha,Bool.not_true,cond_false,e2,Bh]
  by_cases hb:Ft b=true
  ·rw [hb];rw [dT (show G1 a b from ⟨ha,hb⟩)] at hd;rw [← hd]
  ·rw [show Ft b=false by simpa using hb];rw [dF (show ¬G1 a b from fun h=>hb h.2)] at hd;rw [← hd]
 ·rw [show Ft a=false by simpa using ha];rw [dF (show ¬G1 a b from fun h=>ha h.1)] at hd;rw [← hd];rfl
theorem mm_j3r (a b:Tn):f36_j3 a b=some (!(decide (G1 a b))):=by
 unfold f36_j3
 have e1:f32 (a.1,a.2)=some (Ft a):=isR a
 have e2:f32 (b.1,b.2)=some (Ft b):=isR b
 generalize hd:decide (G1 a b)=d
 rw [e1,Bh]
 by_cases ha:Ft a=true
 ·rw [ha,Bool.not_true,cond_false,e2,Bh]
  by_cases hb:Ft b=true
  ·rw [hb];rw [dT (show G1 a b from ⟨ha,hb⟩)] at hd;rw [← hd]
  ·rw [show Ft b=false by simpa using hb];rw [dF (show ¬G1 a b from fun h=>hb h.2)] at hd;rw [← hd]
 ·rw [show Ft a=false by simpa using ha];rw [dF (show ¬G1 a b from fun h=>ha h.1)] at hd;rw [← hd];rfl
theorem mm_j5 (a b:Tn):f94_j5 a b=some (!(decide (K4 a b))):=by
 unfold f94_j5 f117
 simp only [Bh]
 by_cases h1:a.1.length=2
 ·rw [bT (show (a.1.length:Int)=2 by omega),Bool.not_true,cond_false]
  by_cases h2:b.1.length=2
  ·rw [bT (show (b.1.length:Int)=2 by omega),Bool.not_true,cond_false,D4,D4]
   by_cases h3:rd (0:Int) a.1 1=rd (0:Int) b.1 0
   ·rw [nF h3,dT (show K4 a b from ⟨h1,h2,h3⟩)];rfl
   ·rw [nT h3,dF (show ¬K4 a b from fun h=>h3 h.2.2)];rfl
  ·rw [bF (show ¬(b.1.length:Int)=2 by omega),dF (show ¬K4 a b from fun h=>h2 h.2.1)];rfl
 ·rw [bF (show ¬(a.1.length:Int)=2 by omega),dF (show ¬K4 a b from fun h=>h1 h.1)];rfl
theorem mm_j6 (a b:Tn):f36_j6 a b=some (!(decide (K4 a b))):=by
 unfold f36_j6
 by_cases h1:a.1.length=2
 ·rw [nF,cond_false]
  by_cases h2:b.1.length=2
  ·rw [nF,cond_false,D4,D4]
   by_cases h3:rd (0:Int) a.1 1=rd (0:Int) b.1 0
   ·rw [nF h3,dT (show K4 a b from ⟨h1,h2,h3⟩)];rfl
   ·rw [nT h3,dF (show ¬K4 a b from fun h=>h3 h.2.2)];rfl
  ·rw [nT,dF (show ¬K4 a b from fun h=>h2 h.2.1)];rfl
 ·rw [nT,dF (show ¬K4 a b from fun h=>h1 h.1)];rfl
theorem mmP (a b:Tn) (ia:inI a.2) (ib:inI b.2):f94 a b=some (mmS a b):=by
 unfold mmS
 by_cases h:G1 a b
 ·rw [if_pos h]
  by_cases f:K4 a b
  ·rw [if_pos f]
   obtain ⟨n,k,ea,n1,k1,la,ba⟩:=Gy h.1 f.1
   obtain ⟨k',c,eb,_,c1,lb,bb⟩:=Gy h.2 f.2.1
   have f3:=f.2.2
   clear f h
   generalize a.2=A at *
   generalize b.2=B at *
   subst ea eb
   have fk:(k:Int)=(k':Int):=f3
   have fk':k=k':=by omega
   subst fk'
   exact mm_okP A B n k c n1 k1 c1 la lb ba bb ia ib
  ·rw [if_neg f]
   unfold f94 f94_j3
   rw [mm_j4,dT h,Bool.not_true,Bh,cond_false,mm_j5,dF f];rfl
 ·rw [if_neg h]
  unfold f94 f94_j3
  rw [mm_j4,dF h];rfl
theorem mmR (a b:Tn) (ia:inI a.2) (ib:inI b.2):f36 a b=some (mmS a b):=by
 unfold mmS f36 f36_j2 f36_j5
 rw [mm_j3r,Bh,mm_j6]
 by_cases h:G1 a b
 ·rw [if_pos h,dT h,Bool.not_true,cond_false,Bh,Fq,Bh]
  by_cases f:K4 a b
  ·rw [if_pos f,dT f,Bool.not_true,cond_false,Bh,Fq]
   obtain ⟨n,k,ea,n1,k1,la,ba⟩:=Gy h.1 f.1
   obtain ⟨k',c,eb,_,c1,lb,bb⟩:=Gy h.2 f.2.1
   have f3:=f.2.2
   clear f h
   generalize a.2=A at *
   generalize b.2=B at *
   subst ea eb
   have fk:(k:Int)=(k':Int):=f3
   have fk':k=k':=by omega
   subst fk'
   rw [D4 (by simp),D4 (by simp),D4 (by simp),show rd (0:Int) [(n:Int),(k:Int)] 0=(n:Int) from rfl,show rd (0:Int) [(k:Int),(c:Int)] 1=(c:Int) from rfl,goodR,Bh]
   show _=some (if 0<prd [(n:Int),(c:Int)] then (0,[(n:Int),(c:Int)],F8 (n*c) (mmV A B k c)) else (2,[],[]))
   by_cases n0:0<prd [(n:Int),(c:Int)]
   ·have hp:=(prod2 n0).2.2
    have eN:(prd [(n:Int),(c:Int)]).toNat=n*c:=by rw [hp,← Int.natCast_mul,Int.toNat_natCast]
    rw [dT (show prd [(n:Int),(c:Int)]>0 from n0),if_pos n0,Bool.not_true,cond_false,newR _ _ n0,Bh,eN]
    simp only
    rw [mm_loopR A B n k c n1 k1 c1 la lb ba bb ia ib n0,Bh]
   ·rw [dF (show ¬prd [(n:Int),(c:Int)]>0 from n0),if_neg n0];rfl
  ·rw [dF f,if_neg f];rfl
 ·rw [dF h,if_neg h];rfl
end Go.Proofs.Cv
namespace Go.Proofs.Op
open Go.AM Go.Proofs.PlB Go.Proofs.PlW Go.Proofs.PlT Go.Proofs.PlS Go.Proofs.Sh Go.Proofs.Num Go.Proofs.Div Go.Proofs.PlR
theorem fits_self {d:List Int} (h:0<prd d):Fits d d:=⟨h,h,Nat.le_refl _,fun k hk h1=>rfl⟩
theorem acc_self {d:List Int} (h:0<prd d) (v:Int) (v0:0≤v) (v1:v≤4096):∀ k,k≤d.length→accS d d v k+Kc d k*rst d v k=v
 | 0,_=>by simp only [accS,rst,Kz];omega
 | k+1,hk=>by
  have ih:=acc_self h v v0 v1 k (by omega)
  obtain ⟨s0,s1⟩:=Gv h k
  rw [Kh d k hk]
  simp only [accS,rst]
  have e:=Int.mul_ediv_add_emod (rst d v k) (Fw d k)
  have e2:(if Fw d k>1 then rst d v k%Fw d k*Kc d k else 0)=rst d v k%Fw d k*Kc d k:=by
   split
   ·rfl
   ·have:Fw d k=1:=by omega
    rw [this,Int.emod_one,Int.zero_mul]
  rw [e2]
  have e3:Fw d k*Kc d k*(rst d v k/Fw d k)=Kc d k*(Fw d k*(rst d v k/Fw d k)):=by
   rw [Int.mul_comm (Fw d k),Int.mul_assoc]
  have e4:Kc d k*rst d v k=Kc d k*(Fw d k*(rst d v k/Fw d k))+rst d v k%Fw d k*Kc d k:=by
   conv=>lhs;rw [← e]
   rw [Int.mul_add,Int.mul_comm (Kc d k) (rst d v k%Fw d k)]
  omega
theorem rst_all {d:List Int} (h:0<prd d) (v:Int) (v0:0≤v) (v1:v<prd d):rst d v d.length=0:=by
 have hr:=F2 d
 have e:=acc_self h v v0 (by omega) d.length (Nat.le_refl _)
 obtain ⟨a,b⟩:=Kq (fits_self h) v v0 (by omega) d.length (Nat.le_refl _)
 obtain ⟨r0,r1⟩:=rst_range h v v0 (by omega) d.length
 rw [strd_all,← (G3 h).1] at e
 by_cases hz:rst d v d.length=0
 ·exact hz
 ·have:prd d*1≤prd d*rst d v d.length:=Int.mul_le_mul_of_nonneg_left (by omega) (by omega)
  omega
theorem spX_self {d:List Int} (h:0<prd d) (i:Nat) (hi:(i:Int)<prd d):spX d d i=i:=by
 have hr:=F2 d
 have e:=acc_self h (i:Int) (by omega) (by omega) d.length (Nat.le_refl _)
 rw [rst_all h _ (by omega) hi,Int.mul_zero,Int.add_zero] at e
 exact e
theorem Jo {t:Tn} (h:0<prd t.1) (hl:(t.2.length:Int)=prd t.1):Ft t=true:=by
 unfold Ft;rw [dT (show prd t.1>0 from h),bT hl];rfl
def gn (l:List Nd) (i:Nat):Nd:=rd (Ty.z (.p (.int .i64) (.p (.int .i64) (.p (.int .i64) (.p (.int .i64) (.p (.sl (.int .i64)) (.sl (.int .i64)))))))) l (i:Int)
def F9 (t:Tn):Prop:=Ft t=true∧inI t.2
def vl (l:List Nd) (n:Int):Tn:=if 0≤n∧n<l.length then nd l n.toNat else ([],[])
theorem hasP (l:List Nd) (n:Int):f49 l n=some (decide (0≤n∧n<l.length),l):=by
 unfold f49
 by_cases h:n≥0
 ·rw [dT h,cond_true]
  congr 2
  rw [decide_eq_decide];omega
 ·rw [dF h,cond_false,dF (show ¬(0≤n∧n<l.length) from fun hh=>h hh.1)]
theorem atP (l:List Nd) (i:Nat) (h:i<l.length) (hg:F9 (nd l i)):f23 l (i:Int)=some ((gn l i).1,(gn l i).2.1,(gn l i).2.2.1,(gn l i).2.2.2.1,true,(nd l i).1,(nd l i).2,l):=by
 obtain ⟨_,_,l1,l2⟩:=Fy hg.1
 unfold f23
 rw [hasP,Bh,dT]
 simp only [Bool.not_true,cond_false]
 rw [D4]
 show Ey (f48 (nd l i)) _=_
 rw [copy_t _ (by omega) (by omega),Bh]
 rfl
theorem atP_none (l:List Nd) (n:Int) (h:¬(0≤n∧n<l.length)):f23 l n=some (0,0,0,0,false,[],[],l):=by
 unfold f23
 rw [hasP,Bh,dF h]
 rfl
theorem valueP (l:List Nd) (n:Int) (hg:∀ i,i<l.length→F9 (nd l i)):f21 l n=some (decide (0≤n∧n<l.length),(vl l n).1,(vl l n).2,l):=by
 unfold f21 vl
 by_cases h:0≤n∧n<l.length
 ·obtain ⟨i,rfl⟩:=Int.eq_ofNat_of_zero_le h.1
  rw [atP l i (by omega) (hg i (by omega)),Bh,if_pos h,dT h,Int.toNat_natCast]
 ·rw [atP_none l n h,Bh,if_neg h,dF h]
theorem oneT (l:List Nd) (hg:∀ i,i<l.length→F9 (nd l i)) (i:Nat) (h:i<l.length) (g ga gb:Tn) (gg:Ft g=true) (hd:g.1=(nd l i).1)
  (hA:f30 (gn l i) (vl l (gn l i).2.1) (vl l (gn l i).2.2.1) g=some (0,ga)) (hB:f31 (gn l i) (vl l (gn l i).2.1) (vl l (gn l i).2.2.1) g=some (0,gb)) :
  f12 l (i:Int) g=some (0,ga.1,ga.2,gb.1,gb.2,l):=by
 obtain ⟨_,_,l1,_⟩:=Fy gg
 unfold f12
 rw [atP l i h (hg i h),Bh]
 have hj:f12_j2 g ((gn l i).1,(gn l i).2.1,(gn l i).2.2.1,(gn l i).2.2.2.1,true,(nd l i).1,(nd l i).2,l)=some (Sum.inl ()):=by
  unfold f12_j2 f12_j3
  simp only [Bool.not_true,cond_false]
  rw [show ((g.1,g.2):Tn)=g from rfl,F4,gg,sameP _ _ (by omega),dT hd]
  rfl
 rw [hj,Bh,Fq]
 simp only
 rw [valueP l _ hg,Bh]
 simp only
 rw [valueP l _ hg,Bh]
 have eA:f30 ((gn l i).1,(gn l i).2.1,(gn l i).2.2.1,(gn l i).2.2.2.1,(nd l i).1,(nd l i).2) ((vl l (gn l i).2.1).1,(vl l (gn l i).2.1).2) ((vl l (gn l i).2.2.1).1,(vl l (gn l i).2.2.1).2) (g.1,g.2)=some (0,ga):=hA
 have eB:f31 ((gn l i).1,(gn l i).2.1,(gn l i).2.2.1,(gn l i).2.2.2.1,(nd l i).1,(nd l i).2) ((vl l (gn l i).2.1).1,(vl l (gn l i).2.1).2) ((vl l (gn l i).2.2.1).1,(vl l (gn l i).2.2.1).2) (g.1,g.2)=some (0,gb):=hB
 rw [eA,Bh,nF rfl,cond_false,eB,Bh,nF rfl,cond_false]
structure NodeOk (l:List Nd) (i:Nat) (ga gb:Tn→Tn):Prop where
 okFA:∀ g,F9 g→g.1=(nd l i).1→f30 (gn l i) (vl l (gn l i).2.1) (vl l (gn l i).2.2.1) g=some (0,ga g)
 okFB:∀ g,F9 g→g.1=(nd l i).1→f31 (gn l i) (vl l (gn l i).2.1) (vl l (gn l i).2.2.1) g=some (0,gb g)
 okTA:∀ g,F9 g→g.1=(nd l i).1→0≤(gn l i).2.1→(gn l i).2.1<i∧F9 (ga g)∧(ga g).1=(nd l (gn l i).2.1.toNat).1
 okTB:∀ g,F9 g→g.1=(nd l i).1→0≤(gn l i).2.2.1→(gn l i).2.2.1<i∧F9 (gb g)∧(gb g).1=(nd l (gn l i).2.2.1.toNat).1
abbrev Z2:Tn:=Ty.z (.p (.sl (.int .i64)) (.sl (.int .i64)))
structure Keeps (l:List Nd) (root:Nat) (st:List Tn×List Bool):Prop where
 l1:st.1.length=root+1
 l2:st.2.length=root+1
 ok:∀ i,i≤root→F9 (rd Z2 st.1 (i:Int))∧(rd Z2 st.1 (i:Int)).1=(nd l i).1
theorem rd_last {α:Type} (z:α) (l:List α) (v:α):rd z (l++[v]) (l.length:Int)=v:=by
 rw [Gi _ _ _ (by rw [List.length_append];simp),List.getElem_append_right (Nat.le_refl _)]
 simp
end Go.Proofs.Op
namespace Go.Proofs.Cv
open Go.AM Go.Proofs.PlB Go.Proofs.PlW Go.Proofs.PlT Go.Proofs.PlS Go.Proofs.Sh Go.Proofs.Num Go.Proofs.Div Go.Proofs.Op
def hor (d p:List Int):Nat→Int
 | 0=>0
 | k+1=>hor d p k*rd (0:Int) d (k:Int)+rd (0:Int) p (k:Int)
theorem prodL_app:∀ a b:List Int,Ge (a++b)=Ge a*Ge b
 | [],b=>by simp [Ge]
 | x::a,b=>by simp only [List.cons_append,Ge];rw [prodL_app a b,Int.mul_assoc]
theorem prodL_take {d:List Int} (k:Nat) (h:k<d.length):Ge (d.take (k+1))=Ge (d.take k)*rd (0:Int) d (k:Int):=by
 rw [List.take_succ_eq_append_getElem h,prodL_app,Gi _ _ _ h]
 simp [Ge]
theorem prodL_le {d:List Int} (hd:∀ x ∈ d,1≤x) (k:Nat):1≤Ge (d.take k)∧Ge (d.take k)≤Ge d:=by
 have h1:=Kk (d.take k) (fun x hx=>hd x (List.mem_of_mem_take hx))
 have h2:=Kk (d.drop k) (fun x hx=>hd x (List.mem_of_mem_drop hx))
 refine ⟨h1,?_⟩
 have e:Ge d=Ge (d.take k)*Ge (d.drop k):=by rw [← prodL_app,List.take_append_drop]
 rw [e]
 have:=Int.mul_le_mul_of_nonneg_left h2 (show 0≤Ge (d.take k) by omega)
 omega
structure Within (d p:List Int):Prop where
 len:p.length=d.length
 lo:∀ k,k<d.length→0≤rd (0:Int) p (k:Int)
 hi:∀ k,k<d.length→rd (0:Int) p (k:Int)<rd (0:Int) d (k:Int)
theorem hor_in {d p:List Int} (W:Within d p):∀ k,k≤d.length→0≤hor d p k∧hor d p k<Ge (d.take k)
 | 0,_=>by simp [hor,Ge]
 | k+1,h=>by
  obtain ⟨h1,h2⟩:=hor_in W k (by omega)
  have l:=W.lo k (by omega)
  have u:=W.hi k (by omega)
  rw [prodL_take k (by omega)]
  simp only [hor]
  have m1:0≤hor d p k*rd (0:Int) d (k:Int):=Int.mul_nonneg h1 (by omega)
  have m2:(hor d p k+1)*rd (0:Int) d (k:Int)≤Ge (d.take k)*rd (0:Int) d (k:Int):=Int.mul_le_mul_of_nonneg_right (by omega) (by omega)
  rw [Int.add_mul,Int.one_mul] at m2
  constructor <;> omega
theorem hor_small {d p:List Int} (hd:0<prd d) (W:Within d p) (k:Nat) (hk:k≤d.length):0≤hor d p k∧hor d p k<prd d∧hor d p k<4096:=by
 obtain ⟨e,h1,h2⟩:=G3 hd
 have hr:=F2 d
 obtain ⟨a,b⟩:=hor_in W k hk
 obtain ⟨_,c⟩:=prodL_le (fun x hx=>(h1 x hx).1) k
 omega
theorem hor_step {d p:List Int} (hd:0<prd d) (W:Within d p) (k:Nat) (hk:k<d.length) :
  IntKind.i64.wrap (IntKind.i64.wrap (hor d p k*rd (0:Int) d (k:Int))+rd (0:Int) p (k:Int))=hor d p (k+1):=by
 obtain ⟨a,b,c⟩:=hor_small hd W k (by omega)
 obtain ⟨a2,b2,c2⟩:=hor_small hd W (k+1) hk
 have l:=W.lo k hk
 have u:=W.hi k hk
 simp only [hor] at a2 b2 c2 ⊢
 have m1:0≤hor d p k*rd (0:Int) d (k:Int):=Int.mul_nonneg a (by omega)
 rw [Fl (n:=hor d p k*rd (0:Int) d (k:Int)) (by omega) (by omega),Fl]
theorem atR {d p:List Int} (hd:0<prd d) (W:Within d p):f38 d p=some (hor d p d.length,true):=by
 have hl:=Gx hd
 have hp:=W.len
 unfold f38 f38_j1
 rw [goodR,Bh,dT (show prd d>0 from hd),Bool.not_true,cond_false,nF,cond_false,Bh,Fq]
 have h:=F3 (B:=fun go (x:Int×Int)=>f38_l4 d p go x.1 x.2) (fun k=>(hor d p k,(k:Int))) d.length (Sum.inr (hor d p d.length)) ?_ ?_ (by omega)
 ·have h':Fp (fun go (x:Int×Int)=>f38_l4 d p go x.1 x.2) Fv ((0:Int),(0:Int))=_:=h
  rw [h',Bh,Gh]
 ·intro k hk go
  have l:=W.lo k hk
  have u:=W.hi k hk
  have hj:f38_j5 d p (k:Int)=some (Sum.inl ()):=by
   unfold f38_j5
   rw [D4,dF,cond_false,D4,D4,dF];rfl
  unfold f38_l4
  simp only
  rw [dT,cond_true,hj,Bh,Fq,D4,D4,hor_step hd W k hk,Gr k]
 ·intro go
  unfold f38_l4
  simp only
  rw [dF,cond_false]
theorem rst_step {d:List Int} (h:0<prd d) (v:Int) (k:Nat) (hk:k<d.length):rst d v (k+1)*Fw d k+rst d v k%Fw d k=rst d v k:=by
 have:=Gv h k
 show rst d v k/Fw d k*Fw d k+rst d v k%Fw d k=rst d v k
 rw [Int.mul_comm];exact Int.mul_ediv_add_emod _ _
theorem rd_side (d:List Int) (j:Nat) (hj:j<d.length):rd (0:Int) d (j:Int)=Fw d (d.length-1-j):=by
 have:=Kx d (d.length-1-j) (by omega)
 rw [show d.length-1-(d.length-1-j)=j by omega] at this
 exact this
theorem rd_plc (d:List Int) (v:Int) (j:Nat) (hj:j<d.length):rd (0:Int) (plc d v) (j:Int)=rst d v (d.length-1-j)%Fw d (d.length-1-j):=by
 have:=plc_rd d v (d.length-1-j) (by omega)
 rw [show d.length-1-(d.length-1-j)=j by omega] at this
 exact this
theorem plc_within {d:List Int} (h:0<prd d) (v:Int):Within d (plc d v):=
 ⟨plc_len d v,fun k hk=>by rw [rd_plc d v k hk];have:=Gv h (d.length-1-k);exact Int.emod_nonneg _ (by omega),
  fun k hk=>by rw [rd_plc d v k hk,rd_side d k hk];have:=Gv h (d.length-1-k);exact Int.emod_lt_of_pos _ (by omega)⟩
theorem hor_plc {d:List Int} (h:0<prd d) (v:Int) (v0:0≤v) (v1:v<prd d):∀ j,j≤d.length→hor d (plc d v) j=rst d v (d.length-j)
 | 0,_=>by rw [Nat.sub_zero,rst_all h v v0 v1];rfl
 | j+1,hj=>by
  simp only [hor]
  rw [hor_plc h v v0 v1 j (by omega),rd_plc d v j (by omega),rd_side d j (by omega),show d.length-j=(d.length-1-j)+1 by omega,rst_step h v _ (by omega),show d.length-1-j=d.length-(j+1) by omega]
theorem sg_add (F:Nat→Int) (a:Nat):∀ b,sg F (a+b)=sg F a+sg (fun y=>F (a+y)) b
 | 0=>by simp [sg]
 | b+1=>by
  rw [← Nat.add_assoc]
  simp only [sg]
  rw [sg_add F a b];omega
theorem sg_split (F:Nat→Int) (b:Nat):∀ a,sg F (a*b)=sg (fun x=>sg (fun y=>F (x*b+y)) b) a
 | 0=>by simp [sg]
 | a+1=>by
  rw [Nat.add_mul,Nat.one_mul,sg_add,sg_split F b a]
  rfl
theorem sg_zero (F:Nat→Int):∀ n,(∀ k,k<n→F k=0)→sg F n=0
 | 0,_=>rfl
 | n+1,h=>by simp only [sg];rw [sg_zero F n (fun k hk=>h k (by omega)),h n (by omega)];rfl
theorem sg_one (F:Nat→Int) (a:Nat):∀ n,a<n→(∀ k,k<n→k≠a→F k=0)→sg F n=F a
 | 0,h,_=>absurd h (by omega)
 | n+1,h,hz=>by
  simp only [sg]
  by_cases e:n=a
  ·subst e
   rw [sg_zero F n (fun k hk=>hz k (by omega) (by omega)),Int.zero_add]
  ·rw [sg_one F a n (by omega) (fun k hk=>hz k (by omega)),hz n (by omega) e,Int.add_zero]
def goes (D st i:Nat):Nat:=i/(st*D)*st+i%st
def ixs (D st v k:Nat):Nat:=(v/st*D+k)*st+v%st
theorem goes_at (D st x k l:Nat) (hk:k<D) (hl:l<st):goes D st (x*(D*st)+(k*st+l))=x*st+l:=by
 have h0:k*st+l<D*st:=Jf hk hl
 unfold goes
 rw [Nat.mul_comm st D,(Ko (x:=x) h0).1]
 have e:x*(D*st)+(k*st+l)=(x*D+k)*st+l:=by rw [Nat.add_mul,Nat.mul_assoc];omega
 rw [e,(Ko (x:=x*D+k) hl).2]
theorem sums_eq (V:Nat→Int) (H D st v:Nat) (hst:0<st) (hv:v<H*st) :
  sg (fun i=>if goes D st i=v then V i else 0) (H*(D*st))=sg (fun k=>V (ixs D st v k)) D:=by
 have hR:v/st<H:=Nat.div_lt_of_lt_mul (by rw [Nat.mul_comm];exact hv)
 have hl0:v%st<st:=Nat.mod_lt _ hst
 have hv2:v/st*st+v%st=v:=by rw [Nat.mul_comm];exact Nat.div_add_mod v st
 rw [sg_split]
 rw [sg_one _ (v/st) H hR (fun x hx hne=>sg_zero _ _ (fun y hy=>by
  have h0:0<D*st:=by omega
  have hk:y/st<D:=Nat.div_lt_of_lt_mul (by rw [Nat.mul_comm];exact hy)
  have hl:y%st<st:=Nat.mod_lt _ hst
  have ey:y/st*st+y%st=y:=by rw [Nat.mul_comm];exact Nat.div_add_mod y st
  have g:=goes_at D st x (y/st) (y%st) hk hl
  rw [ey] at g
  rw [g,if_neg]
  intro e
  have:=(Ko (x:=x) hl).1
  rw [e] at this
  exact hne this.symm))]
 rw [sg_split]
 refine Lg D (fun k hk=>?_)
 rw [sg_one _ (v%st) st hl0 (fun l hl hne=>by
  rw [goes_at D st _ k l hk hl,if_neg]
  intro e
  exact hne (by omega)),goes_at D st _ k _ hk hl0,if_pos hv2]
 unfold ixs
 congr 1
 rw [Nat.add_mul,Nat.mul_assoc];omega
theorem pgo_of:∀ (d:List Int) (n:Int),1≤n→(∀ x ∈ d,1≤x∧x≤4096)→n*Ge d≤4096→pgo n d=n*Ge d
 | [],n,_,_,_=>by simp [pgo,Ge]
 | x::d,n,hn,h,hp=>by
  have hx:=h x (by simp)
  have hd:∀ y ∈ d,1≤y∧y≤4096:=fun y hy=>h y (by simp [hy])
  have p1:=Kk d (fun y hy=>(hd y hy).1)
  simp only [Ge] at hp ⊢
  have e:n*(x*Ge d)=n*x*Ge d:=by rw [Int.mul_assoc]
  have nx:1≤n*x:=by have:=Int.mul_le_mul hn hx.1 (by omega) (by omega);omega
  have le:n*x≤n*x*Ge d:=by have:=Int.mul_le_mul_of_nonneg_left p1 (show 0≤n*x by omega);omega
  rw [e] at hp ⊢
  have:=pgo_of d (n*x) nx hd hp
  simp only [pgo]
  rw [iNo,this]
theorem rd_take {d X:List Int} {j t:Nat} (ht:t<j) (hj:j≤d.length):rd (0:Int) (d.take j++X) (t:Int)=rd (0:Int) d (t:Int):=by
 rw [Gi _ _ _ (by rw [List.length_append,List.length_take];omega),Gi _ _ _ (by omega),List.getElem_append_left (by rw [List.length_take];omega),List.getElem_take]
theorem rd_skip {d X:List Int} {j t:Nat} (hj:j≤d.length) (ht:t<X.length):rd (0:Int) (d.take j++X) ((j+t:Nat):Int)=rd (0:Int) X (t:Int):=by
 have hl:(d.take j).length=j:=by rw [List.length_take];omega
 rw [Gi _ _ _ (by rw [List.length_append,hl];omega),Gi _ _ _ ht,List.getElem_append_right (by rw [hl];omega)]
 congr 1
 rw [hl];omega
theorem rd_dropL {d:List Int} {j t:Nat} (ht:j+t<d.length):rd (0:Int) (d.drop j) (t:Int)=rd (0:Int) d ((j+t:Nat):Int):=by
 rw [Gi _ _ _ (by rw [List.length_drop];omega),Gi _ _ _ ht,List.getElem_drop]
def Kr (d:List Int) (j:Nat):List Int:=d.take j++d.drop (j+1)
structure Cut (d:List Int) (j H D st:Nat):Prop where
 hj:j<d.length
 pos:0<prd d
 H1:1≤H
 D1:1≤D
 s1:1≤st
 eH:Ge (d.take j)=(H:Int)
 eD:rd (0:Int) d (j:Int)=(D:Int)
 eS:Ge (d.drop (j+1))=(st:Int)
 eN:prd d=((H*(D*st):Nat):Int)
 le:H*(D*st)≤4096
 leM:H*st≤4096
 posM:0<prd (Kr d j)
 eM:prd (Kr d j)=((H*st:Nat):Int)
theorem cut_of {d:List Int} {j:Nat} (h:0<prd d) (hj:j<d.length):∃ H D st:Nat,Cut d j H D st:=by
 obtain ⟨e,h1,h2⟩:=G3 h
 have hr:=F2 d
 have pH:=Kk (d.take j) (fun x hx=>(h1 x (List.mem_of_mem_take hx)).1)
 have pS:=Kk (d.drop (j+1)) (fun x hx=>(h1 x (List.mem_of_mem_drop hx)).1)
 have pD:1≤rd (0:Int) d (j:Int):=by rw [Gi _ _ _ hj];exact (h1 _ (List.getElem_mem hj)).1
 obtain ⟨H,eH⟩:=Int.eq_ofNat_of_zero_le (show 0≤Ge (d.take j) by omega)
 obtain ⟨D,eD⟩:=Int.eq_ofNat_of_zero_le (show 0≤rd (0:Int) d (j:Int) by omega)
 obtain ⟨st,eS⟩:=Int.eq_ofNat_of_zero_le (show 0≤Ge (d.drop (j+1)) by omega)
 have eN:prd d=((H*(D*st):Nat):Int):=by
  rw [e,Int.natCast_mul,Int.natCast_mul,← eH,← eD,← eS]
  have:Ge d=Ge (d.take j)*Ge (d.drop j):=by rw [← prodL_app,List.take_append_drop]
  rw [this,List.drop_eq_getElem_cons hj]
  simp only [Ge]
  rw [Gi _ _ _ hj]
 have le:H*(D*st)≤4096:=by omega
 have D1:1≤D:=by omega
 have leM:H*st≤4096:=Nat.le_trans (Nat.mul_le_mul_left _ (Nat.le_mul_of_pos_left _ D1)) le
 have eM:prd (Kr d j)=((H*st:Nat):Int):=by
  have ep:Ge (Kr d j)=((H*st:Nat):Int):=by unfold Kr;rw [prodL_app,eH,eS,Int.natCast_mul]
  have hl:(Kr d j).length≤4:=by unfold Kr;rw [List.length_append,List.length_take,List.length_drop];omega
  unfold prd
  rw [iNo,pgo_of _ 1 (by omega) (fun x hx=>by
   unfold Kr at hx
   rcases List.mem_append.1 hx with hx | hx
   ·exact h1 x (List.mem_of_mem_take hx)
   ·exact h1 x (List.mem_of_mem_drop hx)) (by rw [ep];omega),ep,Int.one_mul]
 have H1:1≤H:=by omega
 have s1:1≤st:=by omega
 have hp:1≤H*st:=Nat.mul_pos H1 s1
 exact ⟨H,D,st,hj,h,H1,D1,s1,eH,eD,eS,eN,le,leM,by omega,eM⟩
theorem sg_plus (F K:Nat→Int):∀ n,sg (fun k=>F k+K k) n=sg F n+sg K n
 | 0=>rfl
 | n+1=>by simp only [sg];rw [sg_plus F K n];omega
theorem sg_swap (F:Nat→Nat→Int) (m:Nat):∀ n,sg (fun x=>sg (fun y=>F x y) m) n=sg (fun y=>sg (fun x=>F x y) n) m
 | 0=>(sg_zero _ m (fun k hk=>rfl)).symm
 | n+1=>by
  show sg (fun x=>sg (fun y=>F x y) m) n+sg (fun y=>F n y) m=_
  rw [sg_swap F m n,← sg_plus]
  rfl
theorem by_y (T:Nat→Nat→Int) (l s m y:Nat) (hs:1≤s) :
  sg (fun j=>if j*s+y=l then T j y else 0) m=if y≤l∧(l-y)%s=0∧(l-y)/s<m then T ((l-y)/s) y else 0:=by
 by_cases h:y≤l∧(l-y)%s=0∧(l-y)/s<m
 ·obtain ⟨h1,h2,h3⟩:=h
  have e:(l-y)/s*s=l-y:=by have:=Nat.div_add_mod (l-y) s;rw [h2,Nat.add_zero,Nat.mul_comm] at this;exact this
  rw [if_pos ⟨h1,h2,h3⟩,sg_one _ ((l-y)/s) m h3 (fun j hj hne=>if_neg (fun c=>hne (by
   have:j*s=l-y:=by omega
   rw [← this,Nat.mul_div_cancel _ hs])))]
  rw [iPo]
 ·rw [if_neg h,sg_zero _ _ (fun j hj=>if_neg (fun c=>h ⟨by omega,by
   have:l-y=j*s:=by omega
   rw [this,Nat.mul_mod_left],by
   have:l-y=j*s:=by omega
   rw [this,Nat.mul_div_cancel _ hs];exact hj⟩))]
theorem by_j (T:Nat→Nat→Int) (l s w j:Nat) :
  sg (fun y=>if j*s+y=l then T j y else 0) w=if j*s≤l∧l-j*s<w then T j (l-j*s) else 0:=by
 by_cases h:j*s≤l∧l-j*s<w
 ·rw [if_pos h,sg_one _ (l-j*s) w h.2 (fun y hy hne=>if_neg (fun c=>hne (by omega))),iPo]
 ·rw [if_neg h,sg_zero _ _ (fun y hy=>if_neg (fun c=>h ⟨by omega,by omega⟩))]
theorem in_eq (T:Nat→Nat→Nat→Int) (l s m w o:Nat) (hs:1≤s) :
  sg (fun i=>sg (fun y=>if y≤l∧(l-y)%s=0∧(l-y)/s<m then T i ((l-y)/s) y else 0) w) o
   = sg (fun j=>if j*s≤l∧l-j*s<w then sg (fun i=>T i j (l-j*s)) o else 0) m:=by
 have e1:∀ i,sg (fun y=>if y≤l∧(l-y)%s=0∧(l-y)/s<m then T i ((l-y)/s) y else 0) w=sg (fun j=>if j*s≤l∧l-j*s<w then T i j (l-j*s) else 0) m:=fun i=>by
  have a1:sg (fun y=>if y≤l∧(l-y)%s=0∧(l-y)/s<m then T i ((l-y)/s) y else 0) w=sg (fun y=>sg (fun j=>if j*s+y=l then T i j y else 0) m) w:=
   Lg w (fun y hy=>(by_y (T i) l s m y hs).symm)
  have a2:sg (fun j=>if j*s≤l∧l-j*s<w then T i j (l-j*s) else 0) m=sg (fun j=>sg (fun y=>if j*s+y=l then T i j y else 0) w) m:=
   Lg m (fun j hj=>(by_j (T i) l s w j).symm)
  rw [a1,a2]
  exact sg_swap (fun y j=>if j*s+y=l then T i j y else 0) m w
 rw [Lg o (fun i hi=>e1 i),sg_swap]
 refine Lg m (fun j hj=>?_)
 by_cases h:j*s≤l∧l-j*s<w
 ·rw [if_pos h];exact Lg o (fun i hi=>if_pos h)
 ·rw [if_neg h];exact sg_zero _ _ (fun i hi=>if_neg h)
def Bd (S:Int):Prop:=-1000000000000000000000000000000000000000000≤S∧S≤1000000000000000000000000000000000000000000
theorem progif {B:(Int×Int×Int×Int→Option (Int×Int×Int))→Int×Int×Int×Int→Option (Int×Int×Int)} (S0:Int) (F:Nat→Int) (n:Nat) (hn:n≤100000)
  (hb:∀ k,k≤n→Bd (S0+sg F k)) (hs:∀ k,k<n→∀ S,Bd S→∀ go,B go ((k:Int),acc S)=go (((k+1:Nat):Int),acc (S+F k)))
  (he:∀ z go,B go ((n:Int),z)=some z):Fp B Fv ((0:Int),acc S0)=some (acc (S0+sg F n)):=by
 have h:=F3 (B:=B) (fun k=>((k:Int),acc (S0+sg F k))) n (acc (S0+sg F n)) ?_ ?_ (by omega)
 ·simp only [sg] at h
  rw [Int.add_zero] at h
  exact h
 ·intro k hk go
  rw [hs k hk _ (hb k (by omega)),Int.add_assoc]
  rfl
 ·intro go;exact he _ go
theorem refif {B:(Int×Bool×Int×Int×Int×Int→Option (Bool×Int×Int×Int×Int))→Int×Bool×Int×Int×Int×Int→Option (Bool×Int×Int×Int×Int)} (S0:Int) (F:Nat→Int) (n:Nat) (hn:n≤100000)
  (hs:∀ k,k<n→∀ z,Nm (S0+sg F k) z→∃ y,(∀ go,B go ((k:Int),z)=go (((k+1:Nat):Int),y))∧Nm (S0+sg F (k+1)) y)
  (he:∀ z go,B go ((n:Int),z)=some z) (x:Bool×Int×Int×Int×Int) (hx:Nm S0 x):∃ z,Fp B Fv ((0:Int),x)=some z∧Nm (S0+sg F n) z:=by
 refine Kv (B:=B) (fun k y=>y.1=(k:Int)∧Nm (S0+sg F k) y.2) (fun z=>Nm (S0+sg F n) z) n ((0:Int),x) ⟨rfl,by simp only [sg];rw [Int.add_zero];exact hx⟩ ?_ ?_ (by omega)
 ·rintro k hk ⟨_,y⟩ ⟨rfl,hy⟩
  obtain ⟨u,e1,e2⟩:=hs k hk y hy
  exact ⟨(((k+1:Nat):Int),u),e1,rfl,e2⟩
 ·rintro ⟨_,y⟩ ⟨rfl,hy⟩
  exact ⟨y,fun go=>he y go,hy⟩
theorem sg_bd2 (F:Nat→Int) (P:Int):∀ n,(∀ k,k<n→-P≤F k∧F k≤P)→-(n*P)≤sg F n∧sg F n≤n*P
 | 0,_=>by simp [sg]
 | n+1,h=>by
  have:=sg_bd2 F P n (fun k hk=>h k (by omega))
  have h2:=h n (by omega)
  have e:((n+1:Nat):Int)*P=(n:Int)*P+P:=by rw [Int.natCast_add,Int.add_mul];simp
  rw [e]
  simp only [sg]
  constructor <;> omega
def inT (G K:List Int) (c w m x i j y:Nat):Int:=rd (0:Int) G ((i*m+j:Nat):Int)*rd (0:Int) K (((i*c+x)*w+y:Nat):Int)
def inF (G K:List Int) (c w m s x l i y:Nat):Int:=if y≤l∧(l-y)%s=0∧(l-y)/s<m then inT G K c w m x i ((l-y)/s) y else 0
section
variable (G K:List Int) (o c w m s x l:Nat) (c1:1≤c) (w1:1≤w) (hG:G.length=o*m) (hK:K.length=o*(c*w)) (bG:o*m≤4096) (bK:o*(c*w)≤4096) (s1:1≤s) (s64:s≤64) (iG:inI G) (iK:inI K) (hx:x<c) (hl:l<4096)
include c1 w1 hG hK bG bK s1 s64 iG iK hx hl
theorem in_g {i j:Nat} (hi:i<o) (hj:j<m):i*m+j<G.length:=by rw [hG];exact Jf hi hj
theorem in_k {i y:Nat} (hi:i<o) (hy:y<w):(i*c+x)*w+y<K.length:=by
 have e:(i*c+x)*w+y=i*(c*w)+(x*w+y):=by rw [Nat.add_mul,Nat.mul_assoc];omega
 rw [e,hK];exact Jf hi (Jf hx hy)
theorem in_pb {i y:Nat} (hi:i<o) (hy:y<w):Pb (inF G K c w m s x l i y):=by
 unfold inF
 by_cases h:y≤l∧(l-y)%s=0∧(l-y)/s<m
 ·rw [if_pos h]
  exact pb_mul (rdIn iG (in_g G K o c w m s x l c1 w1 hG hK bG bK s1 s64 iG iK hx hl hi h.2.2)) (rdIn iK (in_k G K o c w m s x l c1 w1 hG hK bG bK s1 s64 iG iK hx hl hi hy))
 ·rw [if_neg h];unfold Pb;omega
theorem in_ow:o*w≤4096:=Nat.le_trans (Nat.mul_le_mul_left _ (Nat.le_mul_of_pos_left _ c1)) bK
theorem in_bd (i k:Nat) (hi:i<o) (hk:k≤w):Bd (sg (fun i=>sg (inF G K c w m s x l i) w) i+sg (inF G K c w m s x l i) k):=by
 have h1:=sg_bd2 (fun i=>sg (inF G K c w m s x l i) w) (w*85070591730234615865843651857942052864) i (fun a ha=>sg_bd _ w (fun y hy=>in_pb G K o c w m s x l c1 w1 hG hK bG bK s1 s64 iG iK hx hl (by omega) hy))
 have h2:=sg_bd (inF G K c w m s x l i) k (fun y hy=>in_pb G K o c w m s x l c1 w1 hG hK bG bK s1 s64 iG iK hx hl hi (by omega))
 have h3:=in_ow G K o c w m s x l c1 w1 hG hK bG bK s1 s64 iG iK hx hl
 have h4:(i+1)*w≤o*w:=Nat.mul_le_mul_right _ hi
 rw [Nat.add_mul,Nat.one_mul] at h4
 rw [← Int.mul_assoc,← Int.natCast_mul] at h1
 generalize i*w=iw at *
 unfold Bd
 constructor <;> omega
theorem in_innerP (L:Int) (q:Int) (eL:Int.tmod q L=(l:Int)) (eX:IntKind.i64.wrap (Int.tdiv q L)=(x:Int)) (i:Nat) (hi:i<o) (S0:Int) (hS:S0=sg (fun i=>sg (inF G K c w m s x l i) w) i) :
  Fp (fun go (z:Int×Int×Int×Int)=>f79_l44 ([(o:Int),(m:Int)],G) ([(o:Int),(c:Int),(w:Int)],K) s L q (i:Int) go z.1 z.2.1 z.2.2.1 z.2.2.2) Fv ((0:Int),acc S0)=some (acc (S0+sg (inF G K c w m s x l i) w)):=by
 have h3:=in_ow G K o c w m s x l c1 w1 hG hK bG bK s1 s64 iG iK hx hl
 have hw4:w≤4096:=Nat.le_trans (Nat.le_mul_of_pos_left _ (show 1≤o by omega)) h3
 have e1:IntKind.i64.wrap ((l:Int)+1)=((l+1:Nat):Int):=Gr l (by omega)
 obtain ⟨n,hn⟩:∃ n:Nat,n=if l+1<w then l+1 else w:=⟨_,rfl⟩
 have eM:(if ((l+1:Nat):Int)<(w:Int) then ((l+1:Nat):Int) else (w:Int))=(n:Int):=by
  rw [hn];by_cases h:l+1<w
  ·rw [if_pos h,iPo]
  ·rw [if_neg h,iNo]
 have nw:n≤w:=by rw [hn];split <;> omega
 have nl:n≤l+1:=by rw [hn];split <;> omega
 have eS:sg (inF G K c w m s x l i) w=sg (inF G K c w m s x l i) n:=by
  obtain ⟨r,hr⟩:∃ r,w=n+r:=⟨w-n,by omega⟩
  have e2:=sg_add (inF G K c w m s x l i) n r
  rw [sg_zero (fun y=>inF G K c w m s x l i (n+y)) r (fun y hy=>by
   unfold inF
   refine if_neg (fun h=>?_)
   have h1:=h.1
   have:l+1<w→n=l+1:=fun hh=>by rw [hn,if_pos hh]
   have:¬l+1<w→n=w:=fun hh=>by rw [hn,if_neg hh]
   omega),Int.add_zero] at e2
  rw [← hr] at e2
  exact e2
 rw [eS]
 refine progif (B:=fun go (z:Int×Int×Int×Int)=>f79_l44 ([(o:Int),(m:Int)],G) ([(o:Int),(c:Int),(w:Int)],K) s L q (i:Int) go z.1 z.2.1 z.2.2.1 z.2.2.2) S0 (inF G K c w m s x l i) n (by omega)
  (fun k hk=>by rw [hS];exact in_bd G K o c w m s x l c1 w1 hG hK bG bK s1 s64 iG iK hx hl i k hi (by omega)) ?_ ?_
 ·intro y hy S hSb go
  have hyl:y≤l:=by omega
  have hyw:y<w:=by omega
  have ed:IntKind.i64.wrap ((l:Int)-(y:Int))=((l-y:Nat):Int):=by rw [show (l:Int)-(y:Int)=((l-y:Nat):Int) by omega,wnat (by omega)]
  have em:Int.tmod ((l-y:Nat):Int) (s:Int)=(((l-y)%s:Nat):Int):=by rw [Int.tmod_eq_emod_of_nonneg (Int.natCast_nonneg _),← Int.natCast_emod]
  have eq:IntKind.i64.wrap (Int.tdiv ((l-y:Nat):Int) (s:Int))=(((l-y)/s:Nat):Int):=by
   have:(l-y)/s≤l-y:=Nat.div_le_self _ _
   rw [Int.tdiv_eq_ediv_of_nonneg (Int.natCast_nonneg _),← Int.natCast_ediv,wnat (by omega)]
  have hj:f79_j45 ([(o:Int),(m:Int)],G) s L q (y:Int)=some (decide ((l-y)%s=0∧(l-y)/s<m)):=by
   unfold f79_j45
   rw [eL,ed,em,eq,D4]
   by_cases h1:(l-y)%s=0
   ·rw [bT (show (((l-y)%s:Nat):Int)=0 by omega),cond_true]
    show some (decide ((((l-y)/s:Nat):Int)<(m:Int)))=_
    congr 1
    rw [decide_eq_decide]
    constructor
    ·intro h;exact ⟨h1,by omega⟩
    ·intro h;have:=h.2;omega
   ·rw [bF (show ¬(((l-y)%s:Nat):Int)=0 by omega),cond_false,dF (fun h=>h1 h.1)]
  have e5:inF G K c w m s x l i y=if y≤l∧(l-y)%s=0∧(l-y)/s<m then inT G K c w m x i ((l-y)/s) y else 0:=rfl
  generalize (l-y)/s=jj at *
  unfold f79_l44
  simp only
  rw [eL,e1,show rd (0:Int) [(o:Int),(c:Int),(w:Int)] 2=(w:Int) from rfl,eM,dT,cond_true,D4,hj,Bh]
  by_cases h:(l-y)%s=0∧jj<m
  ·have hg:=in_g G K o c w m s x l c1 w1 hG hK bG bK s1 s64 iG iK hx hl hi h.2
   have hk:=in_k G K o c w m s x l c1 w1 hG hK bG bK s1 s64 iG iK hx hl hi hyw
   rw [dT h,cond_true,show rd (0:Int) [(o:Int),(m:Int)] 1=(m:Int) from rfl,show rd (0:Int) [(o:Int),(c:Int),(w:Int)] 1=(c:Int) from rfl,ed,eq,eX,ixM i m jj (by omega),ixK i c x w y w1 (by omega),D4,D4,
    acc_plus S _ _ hSb (rdIn iG hg) (rdIn iK hk),Bh,Gr y]
   rw [e5,if_pos ⟨hyl,h⟩];rfl
  ·rw [dF h,cond_false,Gr y]
   rw [e5,if_neg (fun hh=>h hh.2),Int.add_zero]
 ·intro z go
  unfold f79_l44
  simp only
  rw [eL,e1,show rd (0:Int) [(o:Int),(c:Int),(w:Int)] 2=(w:Int) from rfl,eM,dF,cond_false]
end
def kerF (G A:List Int) (m L s i x y t:Nat):Int:=rd (0:Int) G ((i*m+t:Nat):Int)*rd (0:Int) A ((x*L+t*s+y:Nat):Int)
def kerV (G A:List Int) (c L w s q:Nat):Int:=sat (rhe (sg (kerF G A (F7 L w s) L s (q/(c*w)) (q/w%c) (q%w)) (F7 L w s)))
section
variable (G A:List Int) (o c L w s:Nat) (o1:1≤o) (c1:1≤c) (w1:1≤w) (hG:G.length=o*F7 L w s) (hA:A.length=c*L) (bG:o*F7 L w s≤4096) (bA:c*L≤4096) (hw:w≤L) (s1:1≤s) (s64:s≤64) (iG:inI G) (iA:inI A)
include o1 c1 w1 hG hA bG bA hw s1 s64 iG iA
theorem ker_g {i t:Nat} (hi:i<o) (ht:t<F7 L w s):i*F7 L w s+t<G.length:=by rw [hG];exact Jf hi ht
theorem ker_a {x y t:Nat} (hx:x<c) (hy:y<w) (ht:t<F7 L w s):x*L+t*s+y<A.length:=by
 have h1:=step_in hw ht hy s1
 have h2:=Jf (c:=c) hx h1
 rw [hA];omega
theorem ker_m:F7 L w s≤4096:=Nat.le_trans (Nat.le_mul_of_pos_left _ o1) bG
theorem ker_p {i x y:Nat} (hi:i<o) (hx:x<c) (hy:y<w) (t:Nat) (ht:t<F7 L w s):Pb (kerF G A (F7 L w s) L s i x y t):=
 pb_mul (rdIn iG (ker_g G A o c L w s o1 c1 w1 hG hA bG bA hw s1 s64 iG iA hi ht)) (rdIn iA (ker_a G A o c L w s o1 c1 w1 hG hA bG bA hw s1 s64 iG iA hx hy ht))
theorem ker_parts {q:Nat} (hq:q<o*(c*w)):q/(c*w)<o∧q/w%c<c∧q%w<w:=by
 have h0:0<c*w:=Nat.mul_pos c1 w1
 exact ⟨Nat.div_lt_of_lt_mul (by rw [Nat.mul_comm];exact hq),Nat.mod_lt _ c1,Nat.mod_lt _ w1⟩
theorem ker_sumP (q:Nat) (hq:q<o*(c*w)) (bq:o*(c*w)≤4096) :
  Fp (fun go (x:Int×Int×Int×Int)=>f82_l9 ([(o:Int),(F7 L w s:Int)],G) ([(c:Int),(L:Int)],A) s w (q:Int) go x.1 x.2.1 x.2.2.1 x.2.2.2) Fv ((0:Int),(0:Int),(0:Int),(0:Int))
   = some (acc (sg (kerF G A (F7 L w s) L s (q/(c*w)) (q/w%c) (q%w)) (F7 L w s))):=by
 obtain ⟨hi,hx,hy⟩:=ker_parts G A o c L w s o1 c1 w1 hG hA bG bA hw s1 s64 iG iA hq
 have hm:=ker_m G A o c L w s o1 c1 w1 hG hA bG bA hw s1 s64 iG iA
 have hcw:c*w≤4096:=Nat.le_trans (Nat.le_mul_of_pos_left _ o1) bq
 have eW:IntKind.i64.wrap ((c:Int)*(w:Int))=((c*w:Nat):Int):=wmul c w (by omega)
 have eI:IntKind.i64.wrap (Int.tdiv (q:Int) ((c*w:Nat):Int))=((q/(c*w):Nat):Int):=by
  have:q/(c*w)≤q:=Nat.div_le_self _ _
  rw [Int.tdiv_eq_ediv_of_nonneg (by omega),← Int.natCast_ediv,wnat (by omega)]
 have eX:Int.tmod (IntKind.i64.wrap (Int.tdiv (q:Int) (w:Int))) (c:Int)=((q/w%c:Nat):Int):=by
  have:q/w≤q:=Nat.div_le_self _ _
  rw [Int.tdiv_eq_ediv_of_nonneg (by omega),← Int.natCast_ediv,wnat (by omega),Int.tmod_eq_emod_of_nonneg (Int.natCast_nonneg _),← Int.natCast_emod]
 have eY:Int.tmod (q:Int) (w:Int)=((q%w:Nat):Int):=by
  rw [Int.tmod_eq_emod_of_nonneg (by omega),← Int.natCast_emod]
 generalize q/(c*w)=i at *
 generalize q/w%c=x at *
 generalize q%w=y at *
 have h:=progdot (B:=fun go (z:Int×Int×Int×Int)=>f82_l9 ([(o:Int),(F7 L w s:Int)],G) ([(c:Int),(L:Int)],A) s w (q:Int) go z.1 z.2.1 z.2.2.1 z.2.2.2)
  (kerF G A (F7 L w s) L s i x y) 0 (F7 L w s) (fun t=>rd (0:Int) G ((i*F7 L w s+t:Nat):Int)) (fun t=>rd (0:Int) A ((x*L+t*s+y:Nat):Int)) (by omega) (fun t ht=>by rw [Nat.zero_add];rfl)
  (fun t ht=>rdIn iG (ker_g G A o c L w s o1 c1 w1 hG hA bG bA hw s1 s64 iG iA hi ht)) (fun t ht=>rdIn iA (ker_a G A o c L w s o1 c1 w1 hG hA bG bA hw s1 s64 iG iA hx hy ht))
  (fun t ht=>ker_p G A o c L w s o1 c1 w1 hG hA bG bA hw s1 s64 iG iA hi hx hy t (by omega)) ?_ ?_
 ·rw [Nat.zero_add] at h
  have e0:acc (sg (kerF G A (F7 L w s) L s i x y) 0)=((0:Int),(0:Int),(0:Int)):=acc_zero
  rw [e0] at h
  exact h
 ·intro t ht z go
  have hg:=ker_g G A o c L w s o1 c1 w1 hG hA bG bA hw s1 s64 iG iA hi ht
  have ha:=ker_a G A o c L w s o1 c1 w1 hG hA bG bA hw s1 s64 iG iA hx hy ht
  unfold f82_l9
  simp only
  rw [show rd (0:Int) [(o:Int),(F7 L w s:Int)] 1=(F7 L w s:Int) from rfl,show rd (0:Int) [(c:Int),(L:Int)] 0=(c:Int) from rfl,show rd (0:Int) [(c:Int),(L:Int)] 1=(L:Int) from rfl,dT,cond_true,eW,eI,eX,eY,
   ixM i (F7 L w s) t (by omega),ixA x L t s y (by omega),D4,D4,Gr t]
 ·intro z go
  unfold f82_l9
  simp only
  rw [show rd (0:Int) [(o:Int),(F7 L w s:Int)] 1=(F7 L w s:Int) from rfl,dF,cond_false]
theorem ker_sumR (i x y:Nat) (hi:i<o) (hx:x<c) (hy:y<w) :
  ∃ z,Fp (fun go (z:Int×Bool×Int×Int×Int×Int)=>f44_l46 ([(o:Int),(F7 L w s:Int)],G) ([(c:Int),(L:Int)],A) s (i:Int) (x:Int) (y:Int) go z.1 z.2.1 z.2.2.1 z.2.2.2.1 z.2.2.2.2.1 z.2.2.2.2.2) Fv ((0:Int),false,(0:Int),(0:Int),(0:Int),(0:Int))=some z∧
   Nm (sg (kerF G A (F7 L w s) L s i x y) (F7 L w s)) z:=by
 have hm:=ker_m G A o c L w s o1 c1 w1 hG hA bG bA hw s1 s64 iG iA
 have h:=refdot (B:=fun go (z:Int×Bool×Int×Int×Int×Int)=>f44_l46 ([(o:Int),(F7 L w s:Int)],G) ([(c:Int),(L:Int)],A) s (i:Int) (x:Int) (y:Int) go z.1 z.2.1 z.2.2.1 z.2.2.2.1 z.2.2.2.2.1 z.2.2.2.2.2)
  (kerF G A (F7 L w s) L s i x y) 0 (F7 L w s) (fun t=>rd (0:Int) G ((i*F7 L w s+t:Nat):Int)) (fun t=>rd (0:Int) A ((x*L+t*s+y:Nat):Int)) (by omega) (fun t ht=>by rw [Nat.zero_add];rfl)
  (fun t ht=>rdIn iG (ker_g G A o c L w s o1 c1 w1 hG hA bG bA hw s1 s64 iG iA hi ht)) (fun t ht=>rdIn iA (ker_a G A o c L w s o1 c1 w1 hG hA bG bA hw s1 s64 iG iA hx hy ht))
  (fun t ht=>ker_p G A o c L w s o1 c1 w1 hG hA bG bA hw s1 s64 iG iA hi hx hy t (by omega)) (by
   intro t ht z go
   have hg:=ker_g G A o c L w s o1 c1 w1 hG hA bG bA hw s1 s64 iG iA hi ht
   have ha:=ker_a G A o c L w s o1 c1 w1 hG hA bG bA hw s1 s64 iG iA hx hy ht
   unfold f44_l46
   simp only
   rw [show rd (0:Int) [(o:Int),(F7 L w s:Int)] 1=(F7 L w s:Int) from rfl,show rd (0:Int) [(c:Int),(L:Int)] 1=(L:Int) from rfl,dT,cond_true,
    ixM i (F7 L w s) t (by omega),ixA x L t s y (by omega),D4,D4,Gr t]) (by
   intro z go
   unfold f44_l46
   simp only
   rw [show rd (0:Int) [(o:Int),(F7 L w s:Int)] 1=(F7 L w s:Int) from rfl,dF,cond_false]) (false,0,0,0,0) nm_zero
 rw [Nat.zero_add] at h
 exact h
end
theorem three_div {i x y c w:Nat} (hx:x<c) (hy:y<w):((i*c+x)*w+y)/(c*w)=i∧((i*c+x)*w+y)/w%c=x∧((i*c+x)*w+y)%w=y:=by
 obtain ⟨d1,d2⟩:=Ko (x:=i*c+x) hy
 obtain ⟨d3,d4⟩:=Ko (x:=i) hx
 have e:(i*c+x)*w+y=i*(c*w)+(x*w+y):=by rw [Nat.add_mul,Nat.mul_assoc];omega
 refine ⟨?_,by rw [d1,d4],d2⟩
 rw [e]
 exact (Ko (x:=i) (Jf hx hy)).1
section
variable (G A:List Int) (o c L w s:Nat) (o1:1≤o) (c1:1≤c) (w1:1≤w) (hG:G.length=o*F7 L w s) (hA:A.length=c*L) (bG:o*F7 L w s≤4096) (bA:c*L≤4096) (hw:w≤L) (s1:1≤s) (s64:s≤64) (iG:inI G) (iA:inI A) (bq:o*(c*w)≤4096)
include o1 c1 w1 hG hA bG bA hw s1 s64 iG iA bq
theorem ker_loopP (r:List Int) :
  Fp (fun go (x:Int×List Int)=>f82_l8 ([(o:Int),(F7 L w s:Int)],G) ([(c:Int),(L:Int)],A) s w (0,r,List.replicate (o*(c*w)) 0) go x.1 x.2) Fv ((0:Int),List.replicate (o*(c*w)) 0)=some (F8 (o*(c*w)) (kerV G A c L w s)):=by
 have hm:=ker_m G A o c L w s o1 c1 w1 hG hA bG bA hw s1 s64 iG iA
 have hcw:c*w≤4096:=Nat.le_trans (Nat.le_mul_of_pos_left _ o1) bq
 have hcw0:1≤c*w:=Nat.mul_pos c1 w1
 rw [Gf _ (kerV G A c L w s)]
 have h:=F3 (B:=fun go (x:Int×List Int)=>f82_l8 ([(o:Int),(F7 L w s:Int)],G) ([(c:Int),(L:Int)],A) s w (0,r,J8 (o*(c*w)) 0 (kerV G A c L w s)) go x.1 x.2) (fun q=>((q:Int),J8 (o*(c*w)) q (kerV G A c L w s))) (o*(c*w)) (F8 (o*(c*w)) (kerV G A c L w s)) ?_ ?_ (by omega)
 ·exact h
 ·intro q hq go
  obtain ⟨hi,hx,hy⟩:=ker_parts G A o c L w s o1 c1 w1 hG hA bG bA hw s1 s64 iG iA hq
  obtain ⟨z,ez⟩:=acc_fix (sg (kerF G A (F7 L w s) L s (q/(c*w)) (q/w%c) (q%w)) (F7 L w s)) (sg_sm _ _ hm (fun t ht=>ker_p G A o c L w s o1 c1 w1 hG hA bG bA hw s1 s64 iG iA hi hx hy t ht))
  unfold f82_l8
  simp only [F5]
  rw [show rd (0:Int) [(c:Int),(L:Int)] 0=(c:Int) from rfl,wmul c w (by omega),dT,cond_true,D4,D4,D4,D4,
   ker_sumP G A o c L w s o1 c1 w1 hG hA bG bA hw s1 s64 iG iA q hq bq,Bh,ez,Bh,D4,Gr q,Int.toNat_natCast]
  have:=Gu (o*(c*w)) q (kerV G A c L w s) _ hq (rfl:sat (rhe (sg (kerF G A (F7 L w s) L s (q/(c*w)) (q/w%c) (q%w)) (F7 L w s)))=kerV G A c L w s q)
  simp only
  rw [this]
 ·intro go
  unfold f82_l8
  simp only [F5]
  rw [dF,cond_false,Gg]
theorem ker_loopR :
  Fp (fun go (x:Int×List Int)=>f44_l33 ([(o:Int),(F7 L w s:Int)],G) ([(c:Int),(L:Int)],A) s w go x.1 x.2) Fv ((0:Int),List.replicate (o*(c*w)) 0)=some (F8 (o*(c*w)) (kerV G A c L w s)):=by
 have hm:=ker_m G A o c L w s o1 c1 w1 hG hA bG bA hw s1 s64 iG iA
 have hcw:c*w≤4096:=Nat.le_trans (Nat.le_mul_of_pos_left _ o1) bq
 have hc:c≤c*w:=Nat.le_mul_of_pos_right _ w1
 have hw2:w≤c*w:=Nat.le_mul_of_pos_left _ c1
 have ho:o≤o*(c*w):=Nat.le_mul_of_pos_right _ (Nat.mul_pos c1 w1)
 rw [Gf _ (kerV G A c L w s)]
 have h:=F3 (B:=fun go (x:Int×List Int)=>f44_l33 ([(o:Int),(F7 L w s:Int)],G) ([(c:Int),(L:Int)],A) s w go x.1 x.2) (fun i=>((i:Int),J8 (o*(c*w)) (i*c*w) (kerV G A c L w s))) o (F8 (o*(c*w)) (kerV G A c L w s)) ?_ ?_ (by omega)
 ·rw [Nat.zero_mul,Nat.zero_mul] at h;exact h
 ·intro i hi go
  unfold f44_l33
  simp only
  have mid:=F3 (B:=fun go (x:Int×List Int)=>f44_l42 ([(o:Int),(F7 L w s:Int)],G) ([(c:Int),(L:Int)],A) s w (i:Int) go x.1 x.2) (fun x=>((x:Int),J8 (o*(c*w)) ((i*c+x)*w) (kerV G A c L w s))) c (J8 (o*(c*w)) ((i+1)*c*w) (kerV G A c L w s)) ?_ ?_ (by omega)
  ·rw [Nat.add_zero] at mid
   have mid':Fp (fun go (x:Int×List Int)=>f44_l42 ([(o:Int),(F7 L w s:Int)],G) ([(c:Int),(L:Int)],A) s w (i:Int) go x.1 x.2) Fv ((0:Int),J8 (o*(c*w)) (i*c*w) (kerV G A c L w s))=_:=mid
   rw [show rd (0:Int) [(o:Int),(F7 L w s:Int)] 0=(o:Int) from rfl,dT,cond_true,mid',Bh,Gr i]
  ·intro x hx go
   unfold f44_l42
   simp only
   have Km:=F3 (B:=fun go (z:Int×List Int)=>f44_l45 ([(o:Int),(F7 L w s:Int)],G) ([(c:Int),(L:Int)],A) s w (i:Int) (x:Int) go z.1 z.2) (fun y=>((y:Int),J8 (o*(c*w)) ((i*c+x)*w+y) (kerV G A c L w s))) w (J8 (o*(c*w)) ((i*c+(x+1))*w) (kerV G A c L w s)) ?_ ?_ (by omega)
   ·rw [Nat.add_zero] at Km
    have inner':Fp (fun go (z:Int×List Int)=>f44_l45 ([(o:Int),(F7 L w s:Int)],G) ([(c:Int),(L:Int)],A) s w (i:Int) (x:Int) go z.1 z.2) Fv ((0:Int),J8 (o*(c*w)) ((i*c+x)*w) (kerV G A c L w s))=_:=Km
    rw [show rd (0:Int) [(c:Int),(L:Int)] 0=(c:Int) from rfl,dT,cond_true,inner',Bh,Gr x]
   ·intro y hy go
    obtain ⟨d1,d2,d3⟩:=three_div (i:=i) hx hy
    have e:(i*c+x)*w+y=i*(c*w)+(x*w+y):=by rw [Nat.add_mul,Nat.mul_assoc];omega
    have hq:(i*c+x)*w+y<o*(c*w):=by rw [e];exact Jf hi (Jf hx hy)
    obtain ⟨z,ez,hz⟩:=ker_sumR G A o c L w s o1 c1 w1 hG hA bG bA hw s1 s64 iG iA i x y hi hx hy
    obtain ⟨u,eu,hu⟩:=ref_end hz (sg_sm _ _ hm (fun t ht=>ker_p G A o c L w s o1 c1 w1 hG hA bG bA hw s1 s64 iG iA hi hx hy t ht))
    unfold f44_l45
    simp only [F5]
    rw [show rd (0:Int) [(c:Int),(L:Int)] 0=(c:Int) from rfl,dT,cond_true,ez,Bh,eu,Bh,hu,Bh,ixK i c x w y w1 (by omega),D4,Int.toNat_natCast,Gr y]
    have:=Gu (o*(c*w)) ((i*c+x)*w+y) (kerV G A c L w s) (sat (rhe (sg (kerF G A (F7 L w s) L s i x y) (F7 L w s)))) hq (by unfold kerV;rw [d1,d2,d3])
    rw [this]
    rfl
   ·intro go
    unfold f44_l45
    simp only
    rw [dF,cond_false]
    congr 2
    rw [← Nat.add_assoc,Nat.add_mul (i*c+x) 1 w,Nat.one_mul]
  ·intro go
   unfold f44_l42
   simp only
   rw [show rd (0:Int) [(c:Int),(L:Int)] 0=(c:Int) from rfl,dF,cond_false]
   congr 2
   rw [Nat.add_mul i 1 c,Nat.one_mul]
 ·intro go
  unfold f44_l33
  simp only
  rw [show rd (0:Int) [(o:Int),(F7 L w s:Int)] 0=(o:Int) from rfl,dF,cond_false,Nat.mul_assoc,Gg]
end
abbrev Gs (g a:Tn) (s w:Int):Prop:=Ft g=true∧Ft a=true∧1≤s∧s≤64∧1≤w∧w≤4096
abbrev J3 (g a:Tn) (s w:Int):Prop:=g.1.length=2∧a.1.length=2∧w≤rd (0:Int) a.1 1∧rd (0:Int) g.1 1=(F7 (rd (0:Int) a.1 1).toNat w.toNat s.toNat:Int)
def kerS (g a:Tn) (s w:Int):Int×Tn:=
 if Gs g a s w then
  if J3 g a s w then
   if 0<prd [rd (0:Int) g.1 0,rd (0:Int) a.1 0,w] then
    (0,[rd (0:Int) g.1 0,rd (0:Int) a.1 0,w],F8 ((rd (0:Int) g.1 0).toNat*((rd (0:Int) a.1 0).toNat*w.toNat)) (kerV g.2 a.2 (rd (0:Int) a.1 0).toNat (rd (0:Int) a.1 1).toNat w.toNat s.toNat))
   else (2,[],[])
  else (4,[],[])
 else (1,[],[])
theorem ker_j4 (g a:Tn) (s w:Int):f82_j4 g a s w=some (!(decide (Gs g a s w))):=by
 unfold f82_j4 f131 f132
 have e1:f28 (g.1,g.2)=some (Ft g):=F4 g
 have e2:f28 (a.1,a.2)=some (Ft a):=F4 a
 generalize hd:decide (Gs g a s w)=d
 rw [e1,Bh]
 by_cases hg:Ft g=true
 ·rw [hg,Bool.not_true,cond_false,e2,Bh]
  by_cases ha:Ft a=true
  ·rw [ha,Bool.not_true,cond_false]
   by_cases h1:s≥1
   ·rw [dT h1,cond_true,Bh]
    by_cases h2:s≤64
    ·rw [dT h2,Bool.not_true,cond_false]
     by_cases h3:w≥1
     ·rw [dT h3,cond_true]
      by_cases h4:w≤4096
      ·rw [dT h4];rw [dT (show Gs g a s w from ⟨hg,ha,h1,h2,h3,h4⟩)] at hd;rw [← hd];rfl
      ·rw [dF h4];rw [dF (show ¬Gs g a s w from fun h=>h4 h.2.2.2.2.2)] at hd;rw [← hd];rfl
     ·rw [dF h3];rw [dF (show ¬Gs g a s w from fun h=>h3 h.2.2.2.2.1)] at hd;rw [← hd];rfl
    ·rw [dF h2];rw [dF (show ¬Gs g a s w from fun h=>h2 h.2.2.2.1)] at hd;rw [← hd];rfl
   ·rw [dF h1];rw [dF (show ¬Gs g a s w from fun h=>h1 h.2.2.1)] at hd;rw [← hd];rfl
  ·rw [show Ft a=false by simpa using ha];rw [dF (show ¬Gs g a s w from fun h=>ha h.2.1)] at hd;rw [← hd];rfl
 ·rw [show Ft g=false by simpa using hg];rw [dF (show ¬Gs g a s w from fun h=>hg h.1)] at hd;rw [← hd];rfl
theorem ker_j3 (g a:Tn) (s w:Int):f44_j3 g a s w=some (!(decide (Gs g a s w))):=by
 unfold f44_j3
 have e1:f32 (g.1,g.2)=some (Ft g):=isR g
 have e2:f32 (a.1,a.2)=some (Ft a):=isR a
 generalize hd:decide (Gs g a s w)=d
 rw [e1,Bh]
 by_cases hg:Ft g=true
 ·rw [hg,Bool.not_true,cond_false,e2,Bh]
  by_cases ha:Ft a=true
  ·rw [ha,Bool.not_true,cond_false]
   by_cases h1:s<1
   ·rw [dT h1];rw [dF (show ¬Gs g a s w from fun h=>by omega)] at hd;rw [← hd];rfl
   ·rw [dF h1,cond_false]
    by_cases h2:s>64
    ·rw [dT h2];rw [dF (show ¬Gs g a s w from fun h=>by omega)] at hd;rw [← hd];rfl
    ·rw [dF h2,cond_false]
     by_cases h3:w<1
     ·rw [dT h3];rw [dF (show ¬Gs g a s w from fun h=>by omega)] at hd;rw [← hd];rfl
     ·rw [dF h3,cond_false]
      by_cases h4:w>4096
      ·rw [dT h4];rw [dF (show ¬Gs g a s w from fun h=>by omega)] at hd;rw [← hd];rfl
      ·rw [dF h4];rw [dT (show Gs g a s w from ⟨hg,ha,by omega,by omega,by omega,by omega⟩)] at hd;rw [← hd];rfl
  ·rw [show Ft a=false by simpa using ha];rw [dF (show ¬Gs g a s w from fun h=>ha h.2.1)] at hd;rw [← hd];rfl
 ·rw [show Ft g=false by simpa using hg];rw [dF (show ¬Gs g a s w from fun h=>hg h.1)] at hd;rw [← hd];rfl
theorem ker_win (a:Tn) (s w:Int) (ha:Ft a=true) (h2:a.1.length=2) (s1:1≤s) (w1:1≤w) (h:w≤rd (0:Int) a.1 1) :
  IntKind.i64.wrap (IntKind.i64.wrap (Int.tdiv (IntKind.i64.wrap (rd (0:Int) a.1 1-w)) s)+1)=(F7 (rd (0:Int) a.1 1).toNat w.toNat s.toNat:Int)∧f133 (rd (0:Int) a.1 1) w s=some (F7 (rd (0:Int) a.1 1).toNat w.toNat s.toNat:Int):=by
 obtain ⟨c,L,ea,c1,L1,la,ba⟩:=Gy ha h2
 have hL:L≤4096:=Nat.le_trans (Nat.le_mul_of_pos_left _ c1) ba
 have e:rd (0:Int) a.1 1=(L:Int):=by rw [ea];rfl
 obtain ⟨w',rfl⟩:=Int.eq_ofNat_of_zero_le (show 0≤w by omega)
 obtain ⟨s',rfl⟩:=Int.eq_ofNat_of_zero_le (show 0≤s by omega)
 rw [e] at h ⊢
 exact ⟨win_eq L w' s' (by omega) (by omega),winP L w' s' (by omega) (by omega) (by omega)⟩
theorem ker_j5 (g a:Tn) (s w:Int) (h:Gs g a s w):f82_j5 g a s w=some (!(decide (J3 g a s w))):=by
 obtain ⟨hg,ha,s1,s64,w1,w4⟩:=h
 unfold f82_j5
 by_cases h1:g.1.length=2
 ·rw [nF,cond_false]
  by_cases h2:a.1.length=2
  ·rw [nF,cond_false,D4,D4]
   by_cases h3:w≤rd (0:Int) a.1 1
   ·rw [(ker_win a s w ha h2 s1 w1 h3).2,Bh]
    by_cases h4:(F7 (rd (0:Int) a.1 1).toNat w.toNat s.toNat:Int)=rd (0:Int) g.1 1
    ·rw [nF h4,dT (show J3 g a s w from ⟨h1,h2,h3,h4.symm⟩)];rfl
    ·rw [nT h4,dF (show ¬J3 g a s w from fun h=>h4 h.2.2.2.symm)];rfl
   ·obtain ⟨c,L,eg,c1,L1,_,_⟩:=Gy hg h1
    have e:rd (0:Int) g.1 1=(L:Int):=by rw [eg];rfl
    rw [win_none _ _ _ (by omega),Bh,nT,dF (show ¬J3 g a s w from fun h=>h3 h.2.2.1)];rfl
  ·rw [nT,dF (show ¬J3 g a s w from fun h=>h2 h.2.1)];rfl
 ·rw [nT,dF (show ¬J3 g a s w from fun h=>h1 h.1)];rfl
theorem ker_j6 (g a:Tn) (s w:Int) (h:Gs g a s w):f44_j6 g a s w=some (!(decide (J3 g a s w))):=by
 obtain ⟨hg,ha,s1,s64,w1,w4⟩:=h
 unfold f44_j6
 by_cases h1:g.1.length=2
 ·rw [nF,cond_false]
  by_cases h2:a.1.length=2
  ·rw [nF,cond_false,D4]
   by_cases h3:w≤rd (0:Int) a.1 1
   ·rw [dF (show ¬w>rd (0:Int) a.1 1 by omega),cond_false,D4,D4,D4,(ker_win a s w ha h2 s1 w1 h3).1]
    by_cases h4:rd (0:Int) g.1 1=(F7 (rd (0:Int) a.1 1).toNat w.toNat s.toNat:Int)
    ·rw [nF h4,dT (show J3 g a s w from ⟨h1,h2,h3,h4⟩)];rfl
    ·rw [nT h4,dF (show ¬J3 g a s w from fun h=>h4 h.2.2.2)];rfl
   ·rw [dT (show w>rd (0:Int) a.1 1 by omega),dF (show ¬J3 g a s w from fun h=>h3 h.2.2.1)];rfl
  ·rw [nT,dF (show ¬J3 g a s w from fun h=>h2 h.2.1)];rfl
 ·rw [nT,dF (show ¬J3 g a s w from fun h=>h1 h.1)];rfl
theorem kerP (g a:Tn) (s w:Int) (ig:inI g.2) (ia:inI a.2):f82 g a s w=some (kerS g a s w):=by
 unfold f82 f82_j3 kerS
 rw [ker_j4,Bh]
 by_cases h:Gs g a s w
 ·rw [dT h,if_pos h,Bool.not_true,cond_false,ker_j5 g a s w h,Bh]
  by_cases f:J3 g a s w
  ·rw [dT f,if_pos f,Bool.not_true,cond_false,Bh,Fq]
   obtain ⟨gg,ga,t1,t64,w1,w4⟩:=h
   obtain ⟨f1,f2,f3,f4⟩:=f
   obtain ⟨o,m,eg,o1,m1,lg,bg⟩:=Gy gg f1
   obtain ⟨c,L,ea,c1,L1,la,ba⟩:=Gy ga f2
   obtain ⟨s,rfl⟩:=Int.eq_ofNat_of_zero_le (show 0≤s by omega)
   obtain ⟨w,rfl⟩:=Int.eq_ofNat_of_zero_le (show 0≤w by omega)
   generalize g.2=G at *
   generalize a.2=A at *
   subst eg ea
   have fw:(w:Int)≤(L:Int):=f3
   have fm:(m:Int)=(F7 L w s:Int):=f4
   have fm':m=F7 L w s:=by omega
   subst fm'
   rw [D4 (by simp),D4 (by simp),D4 (by simp),D4 (by simp),show rd (0:Int) [(o:Int),(F7 L w s:Int)] 0=(o:Int) from rfl,show rd (0:Int) [(c:Int),(L:Int)] 0=(c:Int) from rfl,of_ok,Bh]
   show _=some (if 0<prd [(o:Int),(c:Int),(w:Int)] then (0,[(o:Int),(c:Int),(w:Int)],F8 (o*(c*w)) (kerV G A c L w s)) else (2,[],[]))
   by_cases n0:0<prd [(o:Int),(c:Int),(w:Int)]
   ·have hp:=(prod3 n0).2.2.2
    have hr:=F2 [(o:Int),(c:Int),(w:Int)]
    have eN:(prd [(o:Int),(c:Int),(w:Int)]).toNat=o*(c*w):=by rw [hp,← Int.natCast_mul,← Int.natCast_mul,Int.toNat_natCast]
    rw [if_pos n0,if_pos n0,eN,nF rfl,cond_false]
    simp only
    rw [ker_loopP G A o c L w s o1 c1 (by omega) lg la bg ba (by omega) (by omega) (by omega) ig ia (by omega),Bh]
   ·rw [if_neg n0,if_neg n0,nT (by decide:¬(2:Int)=0)];rfl
  ·rw [dF f,if_neg f];rfl
 ·rw [dF h,if_neg h];rfl
theorem kerR (g a:Tn) (s w:Int) (ig:inI g.2) (ia:inI a.2):f44 g a s w=some (kerS g a s w):=by
 unfold f44 f44_j2 kerS
 rw [ker_j3,Bh]
 by_cases h:Gs g a s w
 ·rw [dT h,if_pos h,Bool.not_true,cond_false,Bh,Fq]
  unfold f44_j5
  rw [ker_j6 g a s w h,Bh]
  by_cases f:J3 g a s w
  ·rw [dT f,if_pos f,Bool.not_true,cond_false,Bh,Fq]
   obtain ⟨gg,ga,t1,t64,w1,w4⟩:=h
   obtain ⟨f1,f2,f3,f4⟩:=f
   obtain ⟨o,m,eg,o1,m1,lg,bg⟩:=Gy gg f1
   obtain ⟨c,L,ea,c1,L1,la,ba⟩:=Gy ga f2
   obtain ⟨s,rfl⟩:=Int.eq_ofNat_of_zero_le (show 0≤s by omega)
   obtain ⟨w,rfl⟩:=Int.eq_ofNat_of_zero_le (show 0≤w by omega)
   generalize g.2=G at *
   generalize a.2=A at *
   subst eg ea
   have fw:(w:Int)≤(L:Int):=f3
   have fm:(m:Int)=(F7 L w s:Int):=f4
   have fm':m=F7 L w s:=by omega
   subst fm'
   rw [D4 (by simp),D4 (by simp),D4 (by simp),D4 (by simp),show rd (0:Int) [(o:Int),(F7 L w s:Int)] 0=(o:Int) from rfl,show rd (0:Int) [(c:Int),(L:Int)] 0=(c:Int) from rfl,goodR,Bh]
   show _=some (if 0<prd [(o:Int),(c:Int),(w:Int)] then (0,[(o:Int),(c:Int),(w:Int)],F8 (o*(c*w)) (kerV G A c L w s)) else (2,[],[]))
   by_cases n0:0<prd [(o:Int),(c:Int),(w:Int)]
   ·have hp:=(prod3 n0).2.2.2
    have hr:=F2 [(o:Int),(c:Int),(w:Int)]
    have eN:(prd [(o:Int),(c:Int),(w:Int)]).toNat=o*(c*w):=by rw [hp,← Int.natCast_mul,← Int.natCast_mul,Int.toNat_natCast]
    rw [dT (show prd [(o:Int),(c:Int),(w:Int)]>0 from n0),if_pos n0,Bool.not_true,cond_false,newR _ _ n0,Bh,eN]
    simp only
    rw [ker_loopR G A o c L w s o1 c1 (by omega) lg la bg ba (by omega) (by omega) (by omega) ig ia (by omega),Bh]
   ·rw [dF (show ¬prd [(o:Int),(c:Int),(w:Int)]>0 from n0),if_neg n0];rfl
  ·rw [dF f,if_neg f];rfl
 ·rw [dF h,if_neg h];rfl
section
variable (G K:List Int) (o c w m s L:Nat) (o1:1≤o) (c1:1≤c) (w1:1≤w) (hG:G.length=o*m) (hK:K.length=o*(c*w)) (bG:o*m≤4096) (bK:o*(c*w)≤4096) (s1:1≤s) (s64:s≤64) (iG:inI G) (iK:inI K) (L1:1≤L) (bL:c*L≤4096)
include o1 c1 w1 hG hK bG bK s1 s64 iG iK L1 bL
def inV (G K:List Int) (o c w m s L q:Nat):Int:=sat (rhe (sg (fun i=>sg (inF G K c w m s (q/L) (q%L) i) w) o))
theorem in_o4:o≤4096:=Nat.le_trans (Nat.le_mul_of_pos_right _ (Nat.mul_pos c1 w1)) bK
theorem in_outP (q:Nat) (hq:q<c*L) :
  Fp (fun go (z:Int×Int×Int×Int)=>f79_l41 ([(o:Int),(m:Int)],G) ([(o:Int),(c:Int),(w:Int)],K) s L (q:Int) go z.1 z.2.1 z.2.2.1 z.2.2.2) Fv ((0:Int),(0:Int),(0:Int),(0:Int))=some (acc (sg (fun i=>sg (inF G K c w m s (q/L) (q%L) i) w) o)):=by
 have hL4:L≤4096:=Nat.le_trans (Nat.le_mul_of_pos_left _ c1) bL
 have hl:q%L<4096:=Nat.lt_of_lt_of_le (Nat.mod_lt _ L1) hL4
 have hx:q/L<c:=Nat.div_lt_of_lt_mul (by rw [Nat.mul_comm];exact hq)
 have eL:Int.tmod (q:Int) (L:Int)=((q%L:Nat):Int):=by rw [Int.tmod_eq_emod_of_nonneg (Int.natCast_nonneg _),← Int.natCast_emod]
 have eX:IntKind.i64.wrap (Int.tdiv (q:Int) (L:Int))=((q/L:Nat):Int):=by
  have:q/L≤q:=Nat.div_le_self _ _
  rw [Int.tdiv_eq_ediv_of_nonneg (Int.natCast_nonneg _),← Int.natCast_ediv,wnat (by omega)]
 have o4:=in_o4 G K o c w m s L o1 c1 w1 hG hK bG bK s1 s64 iG iK L1 bL
 have h:=F3 (B:=fun go (z:Int×Int×Int×Int)=>f79_l41 ([(o:Int),(m:Int)],G) ([(o:Int),(c:Int),(w:Int)],K) s L (q:Int) go z.1 z.2.1 z.2.2.1 z.2.2.2)
  (fun i=>((i:Int),acc (sg (fun i=>sg (inF G K c w m s (q/L) (q%L) i) w) i))) o (acc (sg (fun i=>sg (inF G K c w m s (q/L) (q%L) i) w) o)) ?_ ?_ (by omega)
 ·exact h
 ·intro i hi go
  unfold f79_l41
  simp only
  have Km:=in_innerP G K o c w m s (q/L) (q%L) c1 w1 hG hK bG bK s1 s64 iG iK hx hl (L:Int) (q:Int) eL eX i hi _ rfl
  rw [show rd (0:Int) [(o:Int),(c:Int),(w:Int)] 0=(o:Int) from rfl,dT,cond_true]
  have inner':Fp (fun go (z:Int×Int×Int×Int)=>f79_l44 ([(o:Int),(m:Int)],G) ([(o:Int),(c:Int),(w:Int)],K) s L q (i:Int) go z.1 z.2.1 z.2.2.1 z.2.2.2) Fv ((0:Int),(acc (sg (fun i=>sg (inF G K c w m s (q/L) (q%L) i) w) i)).1,(acc (sg (fun i=>sg (inF G K c w m s (q/L) (q%L) i) w) i)).2.1,(acc (sg (fun i=>sg (inF G K c w m s (q/L) (q%L) i) w) i)).2.2)=_:=Km
  rw [inner',Bh,Gr i]
  rfl
 ·intro go
  unfold f79_l41
  simp only
  rw [show rd (0:Int) [(o:Int),(c:Int),(w:Int)] 0=(o:Int) from rfl,dF,cond_false]
theorem in_loopP (r:List Int) :
  Fp (fun go (z:Int×List Int)=>f79_l32 ([(o:Int),(m:Int)],G) ([(o:Int),(c:Int),(w:Int)],K) s L (0,r,List.replicate (c*L) 0) go z.1 z.2) Fv ((0:Int),List.replicate (c*L) 0)=some (F8 (c*L) (inV G K o c w m s L)):=by
 have hL4:L≤4096:=Nat.le_trans (Nat.le_mul_of_pos_left _ c1) bL
 rw [Gf _ (inV G K o c w m s L)]
 have h:=F3 (B:=fun go (x:Int×List Int)=>f79_l32 ([(o:Int),(m:Int)],G) ([(o:Int),(c:Int),(w:Int)],K) s L (0,r,J8 (c*L) 0 (inV G K o c w m s L)) go x.1 x.2) (fun q=>((q:Int),J8 (c*L) q (inV G K o c w m s L))) (c*L) (F8 (c*L) (inV G K o c w m s L)) ?_ ?_ (by omega)
 ·exact h
 ·intro q hq go
  have hl:q%L<4096:=Nat.lt_of_lt_of_le (Nat.mod_lt _ L1) hL4
  have hx:q/L<c:=Nat.div_lt_of_lt_mul (by rw [Nat.mul_comm];exact hq)
  have hb:Bd (sg (fun i=>sg (inF G K c w m s (q/L) (q%L) i) w) o):=by
   have:=in_bd G K o c w m s (q/L) (q%L) c1 w1 hG hK bG bK s1 s64 iG iK hx hl (o-1) w (by omega) (Nat.le_refl _)
   obtain ⟨p,rfl⟩:∃ p,o=p+1:=⟨o-1,by omega⟩
   exact this
  obtain ⟨z,ez⟩:=acc_fix _ hb
  unfold f79_l32
  simp only [F5]
  rw [dT,cond_true,D4,D4,in_outP G K o c w m s L o1 c1 w1 hG hK bG bK s1 s64 iG iK L1 bL q hq,Bh,ez,Bh,D4,Gr q,Int.toNat_natCast]
  have:=Gu (c*L) q (inV G K o c w m s L) _ hq (rfl:sat (rhe (sg (fun i=>sg (inF G K c w m s (q/L) (q%L) i) w) o))=inV G K o c w m s L q)
  simp only
  rw [this]
 ·intro go
  unfold f79_l32
  simp only [F5]
  rw [dF,cond_false,Gg]
end
def bst (V:List Int) (base:Nat):Nat→Nat
 | 0=>base
 | y+1=>if rd (0:Int) V ((base+(y+1):Nat):Int)>rd (0:Int) V (bst V base y:Int) then base+(y+1) else bst V base y
theorem bst_in (V:List Int) (base:Nat):∀ y,base≤bst V base y∧bst V base y≤base+y
 | 0=>⟨Nat.le_refl _,Nat.le_refl _⟩
 | y+1=>by
  have:=bst_in V base y
  simp only [bst]
  split <;> omega
theorem tab_push2 {α:Type} (n:Nat) (g:Nat→α):F8 n g++[g n]=F8 (n+1) g:=by simp [F8,List.range_succ]
def pl (V:List Int) (L w q:Nat):Nat:=bst V (q/(L/w)*L+q%(L/w)*w) (w-1)
theorem Kt {c m:Nat} (h1:1≤c) (h2:1≤m) (h:c*m≤4096):0<prd [(c:Int),(m:Int)]∧(prd [(c:Int),(m:Int)]).toNat=c*m:=by
 have a1:c≤c*m:=Nat.le_mul_of_pos_right _ h2
 have a2:m≤c*m:=Nat.le_mul_of_pos_left _ h1
 have e:prd [(c:Int),(m:Int)]=((c*m:Nat):Int):=by rw [prd_two,if_neg (by rw [← Int.natCast_mul];omega),Int.natCast_mul]
 rw [e]
 exact ⟨by omega,Int.toNat_natCast _⟩
section
variable (V:List Int) (c L w:Nat) (c1:1≤c) (w1:1≤w) (hw:w≤L) (hV:V.length=c*L) (bV:c*L≤4096)
include c1 w1 hw hV bV
theorem pool_m:1≤L/w∧L/w≤L∧c*(L/w)≤4096∧L≤4096:=by
 have a:L/w≤L:=Nat.div_le_self _ _
 have b:c*(L/w)≤c*L:=Nat.mul_le_mul_left _ a
 exact ⟨(Nat.le_div_iff_mul_le w1).2 (by omega),a,by omega,Nat.le_trans (Nat.le_mul_of_pos_left _ c1) bV⟩
theorem pool_in {x j y:Nat} (hx:x<c) (hj:j<L/w) (hy:y<w):x*L+j*w+y<V.length:=by
 have h1:(j+1)*w≤L/w*w:=Nat.mul_le_mul_right _ hj
 have h2:L/w*w≤L:=Nat.div_mul_le_self _ _
 rw [Nat.add_mul,Nat.one_mul] at h1
 have:=Jf (c:=c) (L:=L) hx (show j*w+y<L by omega)
 rw [hV];omega
theorem pool_eM:IntKind.i64.wrap (Int.tdiv (L:Int) (w:Int))=((L/w:Nat):Int):=by
 obtain ⟨_,a,_,b⟩:=pool_m V c L w c1 w1 hw hV bV
 rw [Int.tdiv_eq_ediv_of_nonneg (by omega),← Int.natCast_ediv,wnat (by omega)]
theorem pool_bestP (q:Nat) (hq:q<c*(L/w)) :
  Fp (fun go (x:Int×Int)=>f101_l7 ([(c:Int),(L:Int)],V) w (q:Int) go x.1 x.2) Fv (((q/(L/w)*L+q%(L/w)*w:Nat):Int),((q/(L/w)*L+q%(L/w)*w+1:Nat):Int))=some (pl V L w q:Int):=by
 obtain ⟨m1,mL,mN,hL⟩:=pool_m V c L w c1 w1 hw hV bV
 have eM:=pool_eM V c L w c1 w1 hw hV bV
 have hx:q/(L/w)<c:=Nat.div_lt_of_lt_mul (by rw [Nat.mul_comm];exact hq)
 have hj:q%(L/w)<L/w:=Nat.mod_lt _ m1
 have eI:IntKind.i64.wrap (Int.tdiv (q:Int) ((L/w:Nat):Int))=((q/(L/w):Nat):Int):=by
  have:q/(L/w)≤q:=Nat.div_le_self _ _
  rw [Int.tdiv_eq_ediv_of_nonneg (by omega),← Int.natCast_ediv,wnat (by omega)]
 have eN:Int.tmod (q:Int) ((L/w:Nat):Int)=((q%(L/w):Nat):Int):=by
  rw [Int.tmod_eq_emod_of_nonneg (by omega),← Int.natCast_emod]
 have hend:=pool_in V c L w c1 w1 hw hV bV hx hj (show w-1<w by omega)
 unfold pl
 generalize q/(L/w)=x at *
 generalize q%(L/w)=j at *
 generalize hm:L/w=m at *
 have eB:IntKind.i64.wrap (IntKind.i64.wrap (IntKind.i64.wrap ((x:Int)*(L:Int))+IntKind.i64.wrap ((j:Int)*(w:Int)))+(w:Int))=((x*L+j*w+w:Nat):Int):=ixA x L j w w (by omega)
 have h:=F3 (B:=fun go (z:Int×Int)=>f101_l7 ([(c:Int),(L:Int)],V) w (q:Int) go z.1 z.2) (fun y=>((bst V (x*L+j*w) y:Int),((x*L+j*w+1+y:Nat):Int))) (w-1) (bst V (x*L+j*w) (w-1):Int) ?_ ?_ (by omega)
 ·exact h
 ·intro y hy go
  have hb:=bst_in V (x*L+j*w) y
  unfold f101_l7
  simp only
  have m0:((m:Nat):Int)≠0:=by omega
  rw [show rd (0:Int) [(c:Int),(L:Int)] 1=(L:Int) from rfl,eM,D4 m0,D4 m0,eI,eN,eB,dT,cond_true,D4,D4,Gr _]
  have e2:((x*L+j*w+1+y:Nat):Int)=((x*L+j*w+(y+1):Nat):Int):=by omega
  have e3:((x*L+j*w+1+y+1:Nat):Int)=((x*L+j*w+1+(y+1):Nat):Int):=by omega
  rw [e2,e3]
  simp only [bst]
  by_cases g:rd (0:Int) V ((x*L+j*w+(y+1):Nat):Int)>rd (0:Int) V (bst V (x*L+j*w) y:Int)
  ·rw [dT g,if_pos g];rfl
  ·rw [dF g,if_neg g];rfl
 ·intro go
  unfold f101_l7
  simp only
  have m0:((m:Nat):Int)≠0:=by omega
  rw [show rd (0:Int) [(c:Int),(L:Int)] 1=(L:Int) from rfl,eM,D4 m0,D4 m0,eI,eN,eB,dF,cond_false]
theorem pool_bestR (x j:Nat) (hx:x<c) (hj:j<L/w) :
  Fp (fun go (z:Int×Int)=>f45_l16 ([(c:Int),(L:Int)],V) w (x:Int) (j:Int) go z.1 z.2) Fv (((x*L+j*w:Nat):Int),(1:Int))=some (bst V (x*L+j*w) (w-1):Int):=by
 obtain ⟨m1,mL,mN,hL⟩:=pool_m V c L w c1 w1 hw hV bV
 have hend:=pool_in V c L w c1 w1 hw hV bV hx hj (show w-1<w by omega)
 have h:=F3 (B:=fun go (z:Int×Int)=>f45_l16 ([(c:Int),(L:Int)],V) w (x:Int) (j:Int) go z.1 z.2) (fun y=>((bst V (x*L+j*w) y:Int),((1+y:Nat):Int))) (w-1) (bst V (x*L+j*w) (w-1):Int) ?_ ?_ (by omega)
 ·exact h
 ·intro y hy go
  have hb:=bst_in V (x*L+j*w) y
  unfold f45_l16
  simp only
  rw [show rd (0:Int) [(c:Int),(L:Int)] 1=(L:Int) from rfl,dT,cond_true,ixA x L j w (1+y) (by omega),D4,D4,Gr _]
  have e2:((x*L+j*w+(1+y):Nat):Int)=((x*L+j*w+(y+1):Nat):Int):=by omega
  have e3:((1+y+1:Nat):Int)=((1+(y+1):Nat):Int):=by omega
  rw [e2,e3]
  simp only [bst]
  by_cases g:rd (0:Int) V ((x*L+j*w+(y+1):Nat):Int)>rd (0:Int) V (bst V (x*L+j*w) y:Int)
  ·rw [dT g,if_pos g];rfl
  ·rw [dF g,if_neg g];rfl
 ·intro go
  unfold f45_l16
  simp only
  rw [dF,cond_false]
def plT (N:Nat) (V:List Int) (L w:Nat):List Int:=F8 N (fun q=>(pl V L w q:Int))
def plV (V:List Int) (L w q:Nat):Int:=rd (0:Int) V (pl V L w q:Int)
theorem pl_in {q:Nat} (hq:q<c*(L/w)):pl V L w q<V.length:=by
 obtain ⟨m1,mL,mN,hL⟩:=pool_m V c L w c1 w1 hw hV bV
 have hx:q/(L/w)<c:=Nat.div_lt_of_lt_mul (by rw [Nat.mul_comm];exact hq)
 have hj:q%(L/w)<L/w:=Nat.mod_lt _ m1
 have hend:=pool_in V c L w c1 w1 hw hV bV hx hj (show w-1<w by omega)
 have:=bst_in V (q/(L/w)*L+q%(L/w)*w) (w-1)
 unfold pl;omega
theorem pool_loopP (r:List Int) :
  Fp (fun go (x:Int×List Int×List Int)=>f101_l6 ([(c:Int),(L:Int)],V) w (0,r,List.replicate (c*(L/w)) 0) go x.1 x.2.1 x.2.2) Fv ((0:Int),[],List.replicate (c*(L/w)) 0)=some (plT (c*(L/w)) V L w,F8 (c*(L/w)) (plV V L w)):=by
 obtain ⟨m1,mL,mN,hL⟩:=pool_m V c L w c1 w1 hw hV bV
 have eM:=pool_eM V c L w c1 w1 hw hV bV
 rw [Gf _ (plV V L w)]
 have h:=F3 (B:=fun go (x:Int×List Int×List Int)=>f101_l6 ([(c:Int),(L:Int)],V) w (0,r,J8 (c*(L/w)) 0 (plV V L w)) go x.1 x.2.1 x.2.2) (fun q=>((q:Int),plT q V L w,J8 (c*(L/w)) q (plV V L w))) (c*(L/w)) (plT (c*(L/w)) V L w,F8 (c*(L/w)) (plV V L w)) ?_ ?_ (by omega)
 ·exact h
 ·intro q hq go
  have hx:q/(L/w)<c:=Nat.div_lt_of_lt_mul (by rw [Nat.mul_comm];exact hq)
  have hj:q%(L/w)<L/w:=Nat.mod_lt _ m1
  have hend:=pool_in V c L w c1 w1 hw hV bV hx hj (show w-1<w by omega)
  have best:=pool_bestP V c L w c1 w1 hw hV bV q hq
  have hpl:=pl_in V c L w c1 w1 hw hV bV hq
  have eI:IntKind.i64.wrap (Int.tdiv (q:Int) ((L/w:Nat):Int))=((q/(L/w):Nat):Int):=by
   have:q/(L/w)≤q:=Nat.div_le_self _ _
   rw [Int.tdiv_eq_ediv_of_nonneg (by omega),← Int.natCast_ediv,wnat (by omega)]
  have eN:Int.tmod (q:Int) ((L/w:Nat):Int)=((q%(L/w):Nat):Int):=by
   rw [Int.tmod_eq_emod_of_nonneg (by omega),← Int.natCast_emod]
  unfold f101_l6
  simp only [F5]
  have m0:((L/w:Nat):Int)≠0:=by omega
  have e2:IntKind.i64.wrap (IntKind.i64.wrap (((q/(L/w):Nat):Int)*(L:Int))+IntKind.i64.wrap (((q%(L/w):Nat):Int)*(w:Int)))=((q/(L/w)*L+q%(L/w)*w:Nat):Int):=by
   rw [wmul _ L (by omega),wmul _ w (by omega),wadd _ _ (by omega)]
  have hlen:(plT q V L w).length=q:=Ga _ _
  rw [show rd (0:Int) [(c:Int),(L:Int)] 1=(L:Int) from rfl,eM,dT,cond_true,D4 m0,D4 m0,eI,eN,e2,Gr _,best,Bh,D4,D4,
   D4 (by rw [hlen];simp only [List.length_cons,List.length_nil];omega),Gr q,Int.toNat_natCast]
  have:=Gu (c*(L/w)) q (plV V L w) (rd (0:Int) V (pl V L w q:Int)) hq rfl
  rw [this]
  have e4:plT q V L w++[(pl V L w q:Int)]=plT (q+1) V L w:=tab_push2 q (fun q=>(pl V L w q:Int))
  rw [e4]
 ·intro go
  unfold f101_l6
  simp only [F5]
  rw [dF,cond_false,Gg]
theorem pool_loopR :
  Fp (fun go (x:Int×List Int×List Int)=>f45_l12 ([(c:Int),(L:Int)],V) w go x.1 x.2.1 x.2.2) Fv ((0:Int),[],List.replicate (c*(L/w)) 0)=some (plT (c*(L/w)) V L w,F8 (c*(L/w)) (plV V L w)):=by
 obtain ⟨m1,mL,mN,hL⟩:=pool_m V c L w c1 w1 hw hV bV
 have eM:=pool_eM V c L w c1 w1 hw hV bV
 have hcN:c≤c*(L/w):=Nat.le_mul_of_pos_right _ m1
 rw [Gf _ (plV V L w)]
 have h:=F3 (B:=fun go (x:Int×List Int×List Int)=>f45_l12 ([(c:Int),(L:Int)],V) w go x.1 x.2.1 x.2.2) (fun x=>((x:Int),plT (x*(L/w)) V L w,J8 (c*(L/w)) (x*(L/w)) (plV V L w))) c (plT (c*(L/w)) V L w,F8 (c*(L/w)) (plV V L w)) ?_ ?_ (by omega)
 ·rw [Nat.zero_mul] at h;exact h
 ·intro x hx go
  unfold f45_l12
  simp only
  have Km:=F3 (B:=fun go (z:Int×List Int×List Int)=>f45_l15 ([(c:Int),(L:Int)],V) w (x:Int) go z.1 z.2.1 z.2.2) (fun j=>((j:Int),plT (x*(L/w)+j) V L w,J8 (c*(L/w)) (x*(L/w)+j) (plV V L w))) (L/w) (plT ((x+1)*(L/w)) V L w,J8 (c*(L/w)) ((x+1)*(L/w)) (plV V L w)) ?_ ?_ (by omega)
  ·rw [Nat.add_zero] at Km
   have inner':Fp (fun go (z:Int×List Int×List Int)=>f45_l15 ([(c:Int),(L:Int)],V) w (x:Int) go z.1 z.2.1 z.2.2) Fv ((0:Int),plT (x*(L/w)) V L w,J8 (c*(L/w)) (x*(L/w)) (plV V L w))=_:=Km
   rw [show rd (0:Int) [(c:Int),(L:Int)] 0=(c:Int) from rfl,dT,cond_true,inner',Bh,Gr x]
  ·intro j hj go
   have hq:=Jf (c:=c) hx hj
   obtain ⟨d1,d2⟩:=Ko (x:=x) hj
   have hend:=pool_in V c L w c1 w1 hw hV bV hx hj (show w-1<w by omega)
   have best:=pool_bestR V c L w c1 w1 hw hV bV x j hx hj
   have hpl:=pl_in V c L w c1 w1 hw hV bV hq
   have ep:bst V (x*L+j*w) (w-1)=pl V L w (x*(L/w)+j):=by unfold pl;rw [d1,d2]
   have e2:IntKind.i64.wrap (IntKind.i64.wrap ((x:Int)*(L:Int))+IntKind.i64.wrap ((j:Int)*(w:Int)))=((x*L+j*w:Nat):Int):=by
    rw [wmul _ L (by omega),wmul _ w (by omega),wadd _ _ (by omega)]
   have hlen:(plT (x*(L/w)+j) V L w).length=x*(L/w)+j:=Ga _ _
   unfold f45_l15
   simp only [F5]
   rw [show rd (0:Int) [(c:Int),(L:Int)] 1=(L:Int) from rfl,eM,dT,cond_true,e2,best,Bh,ep,D4,ixM x (L/w) j (by omega),D4,
    D4 (by rw [hlen];simp only [List.length_cons,List.length_nil];omega),Int.toNat_natCast,Gr j]
   have:=Gu (c*(L/w)) (x*(L/w)+j) (plV V L w) (rd (0:Int) V (pl V L w (x*(L/w)+j):Int)) hq rfl
   rw [this]
   have e4:plT (x*(L/w)+j) V L w++[(pl V L w (x*(L/w)+j):Int)]=plT (x*(L/w)+j+1) V L w:=tab_push2 _ (fun q=>(pl V L w q:Int))
   rw [e4]
   rfl
  ·intro go
   unfold f45_l15
   simp only
   rw [show rd (0:Int) [(c:Int),(L:Int)] 1=(L:Int) from rfl,eM,dF,cond_false,Nat.add_mul,Nat.one_mul]
 ·intro go
  unfold f45_l12
  simp only
  rw [show rd (0:Int) [(c:Int),(L:Int)] 0=(c:Int) from rfl,dF,cond_false,Gg]
end
def G2 (a:Tn) (wid:Int):Int×List Int×List Int×List Int:=
 if Ft a=true then
  if a.1.length=2 then
   if 1≤wid∧wid≤rd (0:Int) a.1 1 then
    (0,[rd (0:Int) a.1 0,(((rd (0:Int) a.1 1).toNat/wid.toNat:Nat):Int)],F8 ((rd (0:Int) a.1 0).toNat*((rd (0:Int) a.1 1).toNat/wid.toNat)) (plV a.2 (rd (0:Int) a.1 1).toNat wid.toNat),plT ((rd (0:Int) a.1 0).toNat*((rd (0:Int) a.1 1).toNat/wid.toNat)) a.2 (rd (0:Int) a.1 1).toNat wid.toNat)
   else (1,[],[],[])
  else (4,[],[],[])
 else (1,[],[],[])
theorem poolP (a:Tn) (wid:Int):f101 a wid=some (G2 a wid):=by
 have eg:f28 (a.1,a.2)=some (Ft a):=F4 a
 unfold f101 f101_j2 G2
 rw [eg,Bh]
 by_cases ga:Ft a=true
 ·rw [if_pos ga,ga,Bool.not_true,cond_false]
  by_cases f1:a.1.length=2
  ·rw [if_pos f1,nF,cond_false]
   by_cases h:1≤wid∧wid≤rd (0:Int) a.1 1
   ·have hj:f101_j3 a wid=some false:=by
     unfold f101_j3
     rw [dF,cond_false,D4,dF]
    rw [if_pos h,hj,Bh,cond_false,Bh,Fq]
    obtain ⟨c,L,ea,c1,L1,la,ba⟩:=Gy ga f1
    obtain ⟨w,rfl⟩:=Int.eq_ofNat_of_zero_le (show 0≤wid by omega)
    generalize a.2=V at *
    subst ea
    have fw:(w:Int)≤(L:Int):=h.2
    have w1:1≤w:=by omega
    have hw:w≤L:=by omega
    obtain ⟨m1,mL,mN,hL⟩:=pool_m V c L w c1 w1 hw la ba
    obtain ⟨p0,pN⟩:=Kt c1 m1 mN
    rw [D4 (by simp),D4 (by simp),D4,D4 (by simp),show rd (0:Int) [(c:Int),(L:Int)] 0=(c:Int) from rfl,show rd (0:Int) [(c:Int),(L:Int)] 1=(L:Int) from rfl,pool_eM V c L w c1 w1 hw la ba,of_ok,if_pos p0,pN,Bh]
    simp only
    rw [pool_loopP V c L w c1 w1 hw la ba,Bh]
    rfl
   ·have hj:f101_j3 a wid=some true:=by
     unfold f101_j3
     by_cases h1:wid<1
     ·rw [dT h1];rfl
     ·rw [dF h1,cond_false,D4,dT]
    rw [if_neg h,hj];rfl
  ·rw [if_neg f1,nT];rfl
 ·rw [if_neg ga,show Ft a=false by simpa using ga];rfl
theorem poolR (a:Tn) (wid:Int):f45 a wid=some (G2 a wid):=by
 have eg:f32 (a.1,a.2)=some (Ft a):=isR a
 unfold f45 f45_j2 G2
 rw [eg,Bh]
 by_cases ga:Ft a=true
 ·rw [if_pos ga,ga,Bool.not_true,cond_false]
  by_cases f1:a.1.length=2
  ·rw [if_pos f1,nF,cond_false]
   by_cases h:1≤wid∧wid≤rd (0:Int) a.1 1
   ·have hj:f45_j3 a wid=some false:=by
     unfold f45_j3
     rw [dF,cond_false,D4,dF]
    rw [if_pos h,hj,Bh,cond_false,Bh,Fq]
    obtain ⟨c,L,ea,c1,L1,la,ba⟩:=Gy ga f1
    obtain ⟨w,rfl⟩:=Int.eq_ofNat_of_zero_le (show 0≤wid by omega)
    generalize a.2=V at *
    subst ea
    have fw:(w:Int)≤(L:Int):=h.2
    have w1:1≤w:=by omega
    have hw:w≤L:=by omega
    obtain ⟨m1,mL,mN,hL⟩:=pool_m V c L w c1 w1 hw la ba
    obtain ⟨p0,pN⟩:=Kt c1 m1 mN
    rw [D4 (by simp),D4 (by simp),D4,show rd (0:Int) [(c:Int),(L:Int)] 0=(c:Int) from rfl,show rd (0:Int) [(c:Int),(L:Int)] 1=(L:Int) from rfl,pool_eM V c L w c1 w1 hw la ba,newR _ _ p0,pN,Bh]
    simp only
    rw [pool_loopR V c L w c1 w1 hw la ba,Bh]
    rfl
   ·have hj:f45_j3 a wid=some true:=by
     unfold f45_j3
     by_cases h1:wid<1
     ·rw [dT h1];rfl
     ·rw [dF h1,cond_false,D4,dT]
    rw [if_neg h,hj];rfl
  ·rw [if_neg f1,nT];rfl
 ·rw [if_neg ga,show Ft a=false by simpa using ga];rfl
end Go.Proofs.Cv
namespace Go.Proofs.Op
open Go.AM Go.Proofs.PlB Go.Proofs.PlW Go.Proofs.PlT Go.Proofs.PlS Go.Proofs.Sh Go.Proofs.Num Go.Proofs.Div Go.Proofs.PlR
theorem anyB_congr {n:Nat} {P Q:Nat→Bool} (h:∀ i,P i=Q i):anyB n P=anyB n Q:=by rw [show P=Q from funext h]
theorem jS_comm (a b:List Int):jS a b=jS b a:=by
 have e1:Kw a b=Kw b a:=by unfold Kw;split <;> split <;> omega
 have e2:∀ k,jMax a b k=jMax b a k:=fun k=>by unfold jMax;split <;> split <;> omega
 have e3:jL a b=jL b a:=by unfold jL;rw [e1];exact Gd _ _ _ (fun i _=>e2 _)
 have e4:anyB (Kw a b) (jBad a b)=anyB (Kw b a) (jBad b a):=by
  rw [e1]
  refine anyB_congr (fun k=>?_)
  unfold jBad
  rw [Bool.and_comm (Fw a k != 1),bne_comm]
 unfold jS
 rw [e3,e4]
 by_cases h:0<prd a∧0<prd b
 ·rw [if_pos h,if_pos (show 0<prd b∧0<prd a from ⟨h.2,h.1⟩)]
 ·rw [if_neg h,if_neg (show ¬(0<prd b∧0<prd a) from fun h2=>h ⟨h2.2,h2.1⟩)]
def foldT (g:Tn) (d:List Int):Tn:=(d,Ka (spX d g.1) g.2 (prd d).toNat g.2.length)
theorem Kn {g:Tn} {d:List Int} (hg:F9 g) (h:Fits d g.1):foldS g d=(0,foldT g d):=by
 unfold foldS foldT
 rw [if_pos ⟨hg.1,h.pd⟩,if_pos (jS_fits.2 h)]
theorem Kf {g:Tn} {d:List Int} (h:0<prd d):F9 (foldT g d):=
 ⟨Jo h (by have:=F2 d;show ((Ka _ _ _ _).length:Int)=prd d;rw [fold_len];omega),fold_inI _ _ _ _⟩
def mulT (g b:Tn):Tn:=(g.1,F8 g.2.length (fun i=>Li (rd (0:Int) g.2 i) (rd (0:Int) b.2 (spX b.1 g.1 i))))
theorem mulS_fit {g b:Tn} (hg:F9 g) (hb:F9 b) (h:Fits b.1 g.1):Jz Li g b=(0,mulT g b):=by
 obtain ⟨p,l,_,_⟩:=Fy hg.1
 unfold Jz mulT
 rw [if_pos ⟨hg.1,hb.1⟩,jS_comm,jS_fits.2 h,if_pos rfl]
 congr 2
 simp only
 rw [show (prd g.1).toNat=g.2.length by omega]
 exact Gd _ _ _ (fun i hi=>by rw [spX_self p i (by omega)])
theorem mulT_good {g b:Tn} (hg:F9 g):F9 (mulT g b):=by
 obtain ⟨p,l,_,_⟩:=Fy hg.1
 exact ⟨Jo p (by unfold mulT;rw [Ga];exact l),inI_tab (fun i hi=>Jh _)⟩
def scaleT (g:Tn) (k:Int):Tn:=(g.1,F8 g.2.length (fun i=>Li (rd (0:Int) g.2 i) k))
theorem Lh {g:Tn} (hg:F9 g) (k:Int):scaleS g k=(0,scaleT g k):=by unfold scaleS scaleT;rw [if_pos hg.1]
theorem scaleT_good {g:Tn} (hg:F9 g) (k:Int):F9 (scaleT g k):=by
 obtain ⟨p,l,_,_⟩:=Fy hg.1
 exact ⟨Jo p (by unfold scaleT;rw [Ga];exact l),inI_tab (fun i hi=>Jh _)⟩
def newT (d:List Int) (v:Int):Tn:=(d,List.replicate (prd d).toNat v)
theorem newT_good {d:List Int} {v:Int} (h:0<prd d) (hv:InR v):F9 (newT d v):=
 ⟨Jo h (by have:=F2 d;unfold newT;simp only [List.length_replicate];omega),inI_rep _ _ hv⟩
abbrev noT:Tn:=([],[])
section
variable (l:List Nd) (i:Nat)
theorem ok_leaf (h:(gn l i).1=1) (ha:(gn l i).2.1=-1) (hb:(gn l i).2.2.1=-1):NodeOk l i (fun _=>noT) (fun _=>noT):=by
 refine ⟨fun g _ _=>?_,fun g _ _=>?_,fun g _ _ h0=>absurd h0 (by rw [ha];decide),fun g _ _ h0=>absurd h0 (by rw [hb];decide)⟩
 ·unfold f30 f30_j1;rw [h];rfl
 ·unfold f31;rw [h];rfl
theorem G7 (n:Nat) (h:n<l.length):vl l (n:Int)=nd l n:=by unfold vl;rw [iPo,Int.toNat_natCast]
theorem ok_add (A B:Nat) (h:(gn l i).1=2) (ha:(gn l i).2.1=A) (hb:(gn l i).2.2.1=B) (hA:A<i) (hB:B<i) (hi:i<l.length) (FA:Fits (nd l A).1 (nd l i).1) (FB:Fits (nd l B).1 (nd l i).1) :
  NodeOk l i (fun g=>foldT g (nd l A).1) (fun g=>foldT g (nd l B).1):=by
 refine ⟨fun g hg hd=>?_,fun g hg hd=>?_,fun g hg hd _=>?_,fun g hg hd _=>?_⟩
 ·unfold f30 f30_j1
  rw [h,ha,G7 l A (by omega)]
  show Ey (f69 g (nd l A).1) _=_
  rw [foldP _ _ hg.2,Kn hg (by rw [hd];exact FA)];rfl
 ·unfold f31
  rw [h,hb,G7 l B (by omega)]
  show Ey (f69 g (nd l B).1) _=_
  rw [foldP _ _ hg.2,Kn hg (by rw [hd];exact FB)];rfl
 ·rw [ha,Int.toNat_natCast];exact ⟨by omega,Kf FA.pd,rfl⟩
 ·rw [hb,Int.toNat_natCast];exact ⟨by omega,Kf FB.pd,rfl⟩
theorem ok_sub (A B:Nat) (h:(gn l i).1=3) (ha:(gn l i).2.1=A) (hb:(gn l i).2.2.1=B) (hA:A<i) (hB:B<i) (hi:i<l.length) (FA:Fits (nd l A).1 (nd l i).1) (FB:Fits (nd l B).1 (nd l i).1) :
  NodeOk l i (fun g=>foldT g (nd l A).1) (fun g=>foldT (scaleT g (-4294967296)) (nd l B).1):=by
 refine ⟨fun g hg hd=>?_,fun g hg hd=>?_,fun g hg hd _=>?_,fun g hg hd _=>?_⟩
 ·unfold f30 f30_j1
  rw [h,ha,G7 l A (by omega)]
  show Ey (f69 g (nd l A).1) _=_
  rw [foldP _ _ hg.2,Kn hg (by rw [hd];exact FA)];rfl
 ·unfold f31
  rw [h,hb,G7 l B (by omega)]
  show Ey (f72 g (-4294967296)) _=_
  have gs:=scaleT_good hg (-4294967296)
  rw [scaleP _ _ hg.2 (by decide),Lh hg,Bh]
  show Ey (Ey (f69 (scaleT g (-4294967296)) (nd l B).1) _) _=_
  rw [foldP _ _ gs.2,Kn gs (by show Fits _ g.1;rw [hd];exact FB)];rfl
 ·rw [ha,Int.toNat_natCast];exact ⟨by omega,Kf FA.pd,rfl⟩
 ·rw [hb,Int.toNat_natCast];exact ⟨by omega,Kf FB.pd,rfl⟩
theorem ok_mul (A B:Nat) (h:(gn l i).1=4) (ha:(gn l i).2.1=A) (hb:(gn l i).2.2.1=B) (hA:A<i) (hB:B<i) (hi:i<l.length) (hgA:F9 (nd l A)) (hgB:F9 (nd l B)) (FA:Fits (nd l A).1 (nd l i).1) (FB:Fits (nd l B).1 (nd l i).1) :
  NodeOk l i (fun g=>foldT (mulT g (nd l B)) (nd l A).1) (fun g=>foldT (mulT g (nd l A)) (nd l B).1):=by
 refine ⟨fun g hg hd=>?_,fun g hg hd=>?_,fun g hg hd _=>?_,fun g hg hd _=>?_⟩
 ·unfold f30 f30_j1
  rw [h,ha,hb,G7 l A (by omega),G7 l B (by omega)]
  show Ey (f70 g (nd l B)) _=_
  have gs:=mulT_good (b:=nd l B) hg
  rw [mulP _ _ hg.2 hgB.2,mulS_fit hg hgB (by rw [hd];exact FB),Bh]
  show Ey (Ey (f69 (mulT g (nd l B)) (nd l A).1) _) _=_
  rw [foldP _ _ gs.2,Kn gs (by show Fits _ g.1;rw [hd];exact FA)];rfl
 ·unfold f31
  rw [h,ha,hb,G7 l A (by omega),G7 l B (by omega)]
  show Ey (f70 g (nd l A)) _=_
  have gs:=mulT_good (b:=nd l A) hg
  rw [mulP _ _ hg.2 hgA.2,mulS_fit hg hgA (by rw [hd];exact FA),Bh]
  show Ey (Ey (f69 (mulT g (nd l A)) (nd l B).1) _) _=_
  rw [foldP _ _ gs.2,Kn gs (by show Fits _ g.1;rw [hd];exact FB)];rfl
 ·rw [ha,Int.toNat_natCast];exact ⟨by omega,Kf FA.pd,rfl⟩
 ·rw [hb,Int.toNat_natCast];exact ⟨by omega,Kf FB.pd,rfl⟩
theorem ok_scale (A:Nat) (K:Int) (h:(gn l i).1=5) (ha:(gn l i).2.1=A) (hb:(gn l i).2.2.1=-1) (hk:(gn l i).2.2.2.1=K) (hA:A<i) (hi:i<l.length) (hK:InR K) (hd:(nd l A).1=(nd l i).1) :
  NodeOk l i (fun g=>scaleT g K) (fun _=>noT):=by
 refine ⟨fun g hg hd=>?_,fun g hg hd=>?_,fun g hg hdd _=>?_,fun g _ _ h0=>absurd h0 (by rw [hb];decide)⟩
 ·unfold f30 f30_j1
  rw [h,hk]
  show Ey (f72 g K) _=_
  rw [scaleP _ _ hg.2 hK,Lh hg];rfl
 ·unfold f31;rw [h];rfl
 ·rw [ha,Int.toNat_natCast];exact ⟨by omega,scaleT_good hg K,by show g.1=_;rw [hdd,hd]⟩
theorem one_rd {g:Tn} (hg:F9 g) (h1:prd g.1=1):0<g.2.length∧InR (rd (0:Int) g.2 0):=by
 obtain ⟨p,l,_,_⟩:=Fy hg.1
 exact ⟨by omega,G9 hg.2 0 (by omega)⟩
theorem ok_all (A:Nat) (h:(gn l i).1=9) (ha:(gn l i).2.1=A) (hb:(gn l i).2.2.1=-1) (hA:A<i) (hi:i<l.length) (hgA:F9 (nd l A)) (hd:(nd l i).1=[]) :
  NodeOk l i (fun g=>newT (nd l A).1 (rd (0:Int) g.2 0)) (fun _=>noT):=by
 obtain ⟨pA,_,_,_⟩:=Fy hgA.1
 refine ⟨fun g hg hdd=>?_,fun g hg hd=>?_,fun g hg hdd _=>?_,fun g _ _ h0=>absurd h0 (by rw [hb];decide)⟩
 ·obtain ⟨g0,g1⟩:=one_rd hg (by rw [hdd,hd];rfl)
  unfold f30 f30_j1
  rw [h,ha,G7 l A (by omega)]
  show E9 (0≤(0:Int)∧(0:Int)<(List.length g.2:Int)) _=_
  rw [D4,K3,if_pos pA];rfl
 ·unfold f31;rw [h];rfl
 ·obtain ⟨g0,g1⟩:=one_rd hg (by rw [hdd,hd];rfl)
  rw [ha,Int.toNat_natCast];exact ⟨by omega,newT_good pA g1,rfl⟩
def meanG (g:Tn) (n:Nat):Int:=sat (rdI (rd (0:Int) g.2 0) n)
theorem ok_mean (A:Nat) (h:(gn l i).1=10) (ha:(gn l i).2.1=A) (hb:(gn l i).2.2.1=-1) (hA:A<i) (hi:i<l.length) (hgA:F9 (nd l A)) (hd:(nd l i).1=[]) :
  NodeOk l i (fun g=>newT (nd l A).1 (meanG g (nd l A).2.length)) (fun _=>noT):=by
 obtain ⟨pA,lA,_,lA2⟩:=Fy hgA.1
 refine ⟨fun g hg hdd=>?_,fun g hg hd=>?_,fun g hg hdd _=>?_,fun g _ _ h0=>absurd h0 (by rw [hb];decide)⟩
 ·obtain ⟨g0,g1⟩:=one_rd hg (by rw [hdd,hd];rfl)
  unfold f30 f30_j1
  rw [h,ha,G7 l A (by omega)]
  show E9 (0≤(0:Int)∧(0:Int)<(List.length g.2:Int)) _=_
  unfold InR at g1
  rw [D4,PlV.of_ok _ g1.1 g1.2,Bh]
  show Ey (f76 (PlV.pair (rd (0:Int) g.2 0)) (List.length (nd l A).2:Int)) _=_
  rw [over_ok _ _ (by omega) (by omega) (by omega) (by omega) (by omega),Bh,K3,if_pos pA];rfl
 ·unfold f31;rw [h];rfl
 ·rw [ha,Int.toNat_natCast];exact ⟨by omega,newT_good pA (Jh _),rfl⟩
def unbentT (kind:Int) (t g:Tn):Tn:=(t.1,F8 t.2.length (fun i=>Li (rd (0:Int) g.2 i) (J9 kind (rd (0:Int) t.2 i))))
theorem ok_bend (A:Nat) (K:Int) (h:(gn l i).1=11) (ha:(gn l i).2.1=A) (hb:(gn l i).2.2.1=-1) (hk:(gn l i).2.2.2.1=K) (k0:1≤K) (k5:K≤5) (hA:A<i) (hi:i<l.length) (hgA:F9 (nd l A)) (hd:(nd l A).1=(nd l i).1) :
  NodeOk l i (fun g=>unbentT K (nd l A) g) (fun _=>noT):=by
 obtain ⟨pA,lA,_,lA2⟩:=Fy hgA.1
 refine ⟨fun g hg hdd=>?_,fun g hg hd=>?_,fun g hg hdd _=>?_,fun g _ _ h0=>absurd h0 (by rw [hb];decide)⟩
 ·unfold f30 f30_j1
  rw [h,ha,hk,G7 l A (by omega)]
  show Ey (f78 K (nd l A) g) _=_
  rw [unbentP _ _ _ hg.2]
  unfold unbentS
  rw [if_pos ⟨k0,k5,hgA.1,hg.1⟩,if_pos (by rw [hd,hdd])];rfl
 ·unfold f31;rw [h];rfl
 ·rw [ha,Int.toNat_natCast]
  exact ⟨by omega,⟨Jo pA (by unfold unbentT;rw [Ga];exact lA),inI_tab (fun i hi=>Jh _)⟩,rfl⟩
end
end Go.Proofs.Op
namespace Go.Proofs.Cv
open Go.AM Go.Proofs.PlB Go.Proofs.PlW Go.Proofs.PlT Go.Proofs.PlS Go.Proofs.Sh Go.Proofs.Num Go.Proofs.Div Go.Proofs.Op
open Go.Proofs.PlR hiding Tn
theorem hor_in2 {d p:List Int}:∀ k:Nat,(∀ j,j<k→0≤rd (0:Int) p (j:Int)∧rd (0:Int) p (j:Int)<rd (0:Int) d (j:Int))→k≤d.length→0≤hor d p k∧hor d p k<Ge (d.take k)
 | 0,_,_=>by simp [hor,Ge]
 | k+1,W,h=>by
  obtain ⟨h1,h2⟩:=hor_in2 k (fun j hj=>W j (by omega)) (by omega)
  obtain ⟨l,u⟩:=W k (by omega)
  rw [prodL_take k (by omega)]
  simp only [hor]
  have m1:0≤hor d p k*rd (0:Int) d (k:Int):=Int.mul_nonneg h1 (by omega)
  have m2:(hor d p k+1)*rd (0:Int) d (k:Int)≤Ge (d.take k)*rd (0:Int) d (k:Int):=Int.mul_le_mul_of_nonneg_right (by omega) (by omega)
  rw [Int.add_mul,Int.one_mul] at m2
  constructor <;> omega
theorem hor_small2 {d p:List Int} (hd:0<prd d) (k:Nat) (W:∀ j,j<k→0≤rd (0:Int) p (j:Int)∧rd (0:Int) p (j:Int)<rd (0:Int) d (j:Int)) (hk:k≤d.length):0≤hor d p k∧hor d p k<prd d∧hor d p k<4096:=by
 obtain ⟨e,h1,h2⟩:=G3 hd
 have hr:=F2 d
 obtain ⟨a,b⟩:=hor_in2 k W hk
 obtain ⟨_,c⟩:=prodL_le (fun x hx=>(h1 x hx).1) k
 omega
theorem at_any (d p:List Int) (hd:0<prd d):∃ q b,f120 d p=some (q,b)∧0≤q∧q<prd d:=by
 have hl:=Gx hd
 unfold f120 f120_j1
 rw [Gp,Bh,dT (show prd d>0 from hd),Bool.not_true,cond_false]
 by_cases hp:p.length=d.length
 ·rw [nF,cond_false,Bh,Fq]
  have LL:=Gb (B:=fun go (x:Int×Int)=>f120_l4 d p go x.1 x.2)
   (fun x=>∃ k:Nat,k≤d.length∧x=(hor d p k,(k:Int))∧∀ j,j<k→0≤rd (0:Int) p (j:Int)∧rd (0:Int) p (j:Int)<rd (0:Int) d (j:Int)) (fun x=>d.length-x.2.toNat)
   (fun z=>∀ v,z=Sum.inr v→0≤v∧v<prd d) ?_ ((0:Int),(0:Int)) ⟨0,by omega,rfl,fun j hj=>absurd hj (by omega)⟩ (by simp only;omega)
  ·obtain ⟨z,ez,hz⟩:=LL
   rw [ez,Bh]
   cases z with
   | inl u=>exact ⟨0,false,rfl,by omega,hd⟩
   | inr v=>exact ⟨v,true,rfl,hz v rfl⟩
  ·rintro _ ⟨k,hk,rfl,W⟩
   by_cases hkk:k<d.length
   ·by_cases hw:0≤rd (0:Int) p (k:Int)∧rd (0:Int) p (k:Int)<rd (0:Int) d (k:Int)
    ·have W2:∀ j,j<k+1→0≤rd (0:Int) p (j:Int)∧rd (0:Int) p (j:Int)<rd (0:Int) d (j:Int):=fun j hj=>by
      by_cases e:j=k
      ·subst e;exact hw
      ·exact W j (by omega)
     obtain ⟨a,b,c⟩:=hor_small2 hd k W hk
     obtain ⟨a2,b2,c2⟩:=hor_small2 hd (k+1) W2 hkk
     refine .inr ⟨(hor d p (k+1),((k+1:Nat):Int)),fun go=>?_,⟨k+1,hkk,rfl,W2⟩,by simp only;omega⟩
     have hj:f120_j5 d p (k:Int)=some (Sum.inl ()):=by
      unfold f120_j5
      rw [dF,cond_false,D4,dF];rfl
     simp only [hor] at a2 b2 c2
     have m1:0≤hor d p k*rd (0:Int) d (k:Int):=Int.mul_nonneg a (by omega)
     unfold f120_l4
     simp only
     rw [dT,cond_true,D4,hj,Bh,Fq,D4,Gr k,Fl (n:=hor d p k*rd (0:Int) d (k:Int)) (by omega) (by omega),Fl]
     rfl
    ·refine .inl ⟨Sum.inl (),fun go=>?_,fun v h=>absurd h (by simp)⟩
     have hj:f120_j5 d p (k:Int)=some (Sum.inr ()):=by
      unfold f120_j5
      by_cases h1:rd (0:Int) p (k:Int)<0
      ·rw [dT h1];rfl
      ·rw [dF h1,cond_false,D4,dT];rfl
     unfold f120_l4
     simp only
     rw [dT,cond_true,D4,hj,Bh,Gh]
   ·obtain rfl:k=d.length:=by omega
    obtain ⟨a,b,c⟩:=hor_small2 hd _ W (Nat.le_refl _)
    refine .inl ⟨Sum.inr (hor d p d.length),fun go=>?_,fun v h=>by injection h with h;subst h;exact ⟨a,b⟩⟩
    unfold f120_l4
    simp only
    rw [dF,cond_false]
 ·rw [nT,cond_true,Bh,Gh]
  exact ⟨0,false,rfl,by omega,hd⟩
theorem rd_any {l:List Int} (h:inI l) (q:Int) (h0:0≤q) (h1:q<l.length):InR (rd (0:Int) l q):=by
 obtain ⟨k,rfl⟩:=Int.eq_ofNat_of_zero_le h0
 exact G9 h k (by omega)
theorem pool_places (a:Tn) (w:Int) (h:(G2 a w).1=0):Ft a=true∧(((G2 a w).2.2.2.length:Nat):Int)=prd (G2 a w).2.1∧(G2 a w).2.2.2.length≤4096∧∀ k:Nat,k<(G2 a w).2.2.2.length→0≤rd (0:Int) (G2 a w).2.2.2 (k:Int)∧rd (0:Int) (G2 a w).2.2.2 (k:Int)<a.2.length:=by
 unfold G2 at h ⊢
 by_cases c:Ft a=true
 ·rw [if_pos c] at h ⊢
  by_cases e:a.1.length=2
  ·rw [if_pos e] at h ⊢
   by_cases f:1≤w∧w≤rd (0:Int) a.1 1
   ·rw [if_pos f] at h ⊢
    obtain ⟨cc,L,ea,c1,L1,la,ba⟩:=Gy c e
    obtain ⟨w',rfl⟩:=Int.eq_ofNat_of_zero_le (show 0≤w by omega)
    refine ⟨c,?_⟩
    clear h c e
    generalize a.2=V at *
    subst ea
    have fw:(w':Int)≤(L:Int):=f.2
    have w1:1≤w':=by omega
    obtain ⟨m1,mL,mN,hL⟩:=pool_m V cc L w' c1 w1 (by omega) la ba
    obtain ⟨p0,pN⟩:=Kt c1 m1 mN
    have hlen:(plT (cc*(L/w')) V L w').length=cc*(L/w'):=Ga _ _
    have key:(((plT (cc*(L/w')) V L w').length:Nat):Int)=prd [(cc:Int),((L/w':Nat):Int)]∧(plT (cc*(L/w')) V L w').length≤4096∧∀ k:Nat,k<(plT (cc*(L/w')) V L w').length→0≤rd (0:Int) (plT (cc*(L/w')) V L w') (k:Int)∧rd (0:Int) (plT (cc*(L/w')) V L w') (k:Int)<V.length:=by
     refine ⟨by rw [hlen];omega,by omega,fun k hk=>?_⟩
     rw [hlen] at hk
     have:=pl_in V cc L w' c1 w1 (by omega) la ba hk
     have er:rd (0:Int) (plT (cc*(L/w')) V L w') (k:Int)=(pl V L w' k:Int):=Kj _ _ _ _ hk
     rw [er]
     constructor <;> omega
    exact key
   ·rw [if_neg f] at h;exact absurd h (by decide)
  ·rw [if_neg e] at h;exact absurd h (by decide)
 ·rw [if_neg c] at h;exact absurd h (by decide)
structure GW (root:Nat) (ls:List Tn) (gv:List Bool):Prop where
 w1:ls.length=root+1
 w2:gv.length=root+1
 wI:∀ i,i≤root→inI (rd Z2 ls (i:Int)).2
def flS (a:Tn):Int×Tn:=
 if Ft a=true then
  if a.1.length=2 then (0,[rd (0:Int) a.1 1,rd (0:Int) a.1 0],F8 ((rd (0:Int) a.1 1).toNat*(rd (0:Int) a.1 0).toNat) (PlM.flipV (rd (0:Int) a.1 0).toNat (rd (0:Int) a.1 1).toNat a.2))
  else (4,[],[])
 else (1,[],[])
theorem mat_of {n m:Nat} (h1:1≤n) (h2:1≤m) (h:n*m≤4096):PlM.Mat n m:=by
 have a1:n≤n*m:=Nat.le_mul_of_pos_right _ h2
 have a2:m≤n*m:=Nat.le_mul_of_pos_left _ h1
 exact ⟨by omega,by omega,by omega,by omega,by rw [← Int.natCast_mul];omega⟩
theorem flP (a:Tn):f74 a=some (flS a):=by
 unfold flS
 by_cases ga:Ft a=true
 ·rw [if_pos ga]
  by_cases f1:a.1.length=2
  ·rw [if_pos f1]
   obtain ⟨n,m,ea,n1,m1,la,ba⟩:=Gy ga f1
   clear ga f1
   generalize a.2=V at *
   subst ea
   exact PlM.flip_ok n m V (mat_of n1 m1 ba) la
  ·rw [if_neg f1]
   unfold f74 f117
   have eg:f28 (a.1,a.2)=some (Ft a):=F4 a
   simp only [Bh]
   rw [eg,ga,Bh,Bool.not_true,cond_false,bF (show ¬(a.1.length:Int)=2 by omega)];rfl
 ·rw [if_neg ga]
  unfold f74
  have eg:f28 (a.1,a.2)=some (Ft a):=F4 a
  rw [eg,show Ft a=false by simpa using ga];rfl
def sw2 (x y:Int):Nat→Int×List Int
 | 0=>(0,[0,0])
 | 1=>(1,[0,x])
 | _=>(2,[y,x])
theorem swap_loop (x y:Int):Fp (fun go (z:Int×List Int)=>f84_l20 [1,0] (true,[x,y]) go z.1 z.2) Fv ((0:Int),[0,0])=some [y,x]:=
 F3 (B:=fun go (z:Int×List Int)=>f84_l20 [1,0] (true,[x,y]) go z.1 z.2) (sw2 x y) 2 [y,x] (fun k hk go=>by
  match k,hk with
  | 0,_=>rfl
  | 1,_=>rfl) (fun go=>rfl) (by omega)
theorem turn_loop (n m:Nat) (V:List Int) (n1:1≤n) (m1:1≤m) (hV:V.length=n*m) (bV:n*m≤4096) :
  Fp (fun go (x:Int×List Int)=>f84_l19 ([(n:Int),(m:Int)],V) [1,0] [(m:Int),(n:Int)] go x.1 x.2) Fv ((0:Int),List.replicate (m*n) 0)=some (F8 (m*n) (PlM.flipV n m V)):=by
 have bm:m*n≤4096:=by rw [Nat.mul_comm];exact bV
 obtain ⟨pm,pmN⟩:=Kt m1 n1 bm
 obtain ⟨pn,pnN⟩:=Kt n1 m1 bV
 rw [Gf _ (PlM.flipV n m V)]
 have h:=F3 (B:=fun go (x:Int×List Int)=>f84_l19 ([(n:Int),(m:Int)],V) [1,0] [(m:Int),(n:Int)] go x.1 x.2) (fun q=>((q:Int),J8 (m*n) q (PlM.flipV n m V))) (m*n) (F8 (m*n) (PlM.flipV n m V)) ?_ ?_ (by omega)
 ·exact h
 ·intro q hq go
  have q1:(q:Int)<prd [(m:Int),(n:Int)]:=by omega
  have W:=plc_within pm (q:Int)
  have h1:=hor_plc pm (q:Int) (by omega) q1 1 (by simp)
  have h2:=hor_plc pm (q:Int) (by omega) q1 2 (by simp)
  have pl:=placeR [(m:Int),(n:Int)] pm (q:Int) (by omega) q1
  obtain ⟨x,y,hxy⟩:∃ x y,plc [(m:Int),(n:Int)] (q:Int)=[x,y]:=⟨_,_,two_of (d:=plc [(m:Int),(n:Int)] (q:Int)) (plc_len _ _)⟩
  rw [hxy] at W h1 h2 pl
  have w0:0≤x:=W.lo 0 (by simp)
  have w1:0≤y:=W.lo 1 (by simp)
  have u0:x<(m:Int):=W.hi 0 (by simp)
  have u1:y<(n:Int):=W.hi 1 (by simp)
  have e0:x=((q/n:Nat):Int):=by
   have a1:hor [(m:Int),(n:Int)] [x,y] 1=x:=by show 0*(m:Int)+x=x;rw [Int.zero_mul,Int.zero_add]
   have a2:rst [(m:Int),(n:Int)] (q:Int) ([(m:Int),(n:Int)].length-1)=(q:Int)/(n:Int):=rfl
   rw [a1,a2] at h1
   rw [h1,Int.natCast_ediv]
  have e1:y=((q%n:Nat):Int):=by
   have a1:hor [(m:Int),(n:Int)] [x,y] 2=x*(n:Int)+y:=by
    show (0*(m:Int)+x)*(n:Int)+y=_
    rw [Int.zero_mul,Int.zero_add]
   have a3:rst [(m:Int),(n:Int)] (q:Int) ([(m:Int),(n:Int)].length-2)=(q:Int):=rfl
   rw [a1,a3,e0] at h2
   have a4:=Nat.div_add_mod q n
   have a5:((q/n:Nat):Int)*(n:Int)=((n*(q/n):Nat):Int):=by rw [Int.natCast_mul,Int.mul_comm]
   omega
  have W2:Within [(n:Int),(m:Int)] [y,x]:=⟨rfl,fun k hk=>by
    match k,hk with
    | 0,_=>exact w1
    | 1,_=>exact w0,fun k hk=>by
    match k,hk with
    | 0,_=>exact u1
    | 1,_=>exact u0⟩
  have eat:=atR pn W2
  have eh:hor [(n:Int),(m:Int)] [y,x] [(n:Int),(m:Int)].length=((q%n*m+q/n:Nat):Int):=by
   show (0*(n:Int)+y)*(m:Int)+x=_
   rw [Int.zero_mul,Int.zero_add,e0,e1,← Int.natCast_mul,← Int.natCast_add]
  rw [eh] at eat
  have hlt:=PlM.flip_at n m q n1 hq
  unfold f84_l19
  simp only [F5]
  have gl:0≤(List.length [x,y]:Int)∧(List.length [x,y]:Int)≤(List.length [x,y]:Int)∧Int.toNat (List.length [x,y]:Int)*8≤140737488355328:=by
   show 0≤((2:Nat):Int)∧((2:Nat):Int)≤((2:Nat):Int)∧Int.toNat ((2:Nat):Int)*8≤140737488355328
   decide
  have sl:Fp (fun go (z:Int×List Int)=>f84_l20 [1,0] (true,[x,y]) go z.1 z.2) Fv ((0:Int),List.replicate (Int.toNat (List.length [x,y]:Int)) (0:Int))=some [y,x]:=swap_loop x y
  rw [dT,cond_true,pl,Bh,D4 gl,sl,Bh,eat,Bh,D4 (by rw [hV];omega),D4,Gr q,Int.toNat_natCast]
  have:=Gu (m*n) q (PlM.flipV n m V) (rd (0:Int) V ((q%n*m+q/n:Nat):Int)) hq (by unfold PlM.flipV;exact rd_getD V _ (by omega))
  rw [this]
 ·intro go
  unfold f84_l19
  simp only [F5]
  rw [dF,cond_false,Gg]
theorem flR (a:Tn):f35 a=some (flS a):=by
 have eg:f32 (a.1,a.2)=some (Ft a):=isR a
 unfold f35 flS
 rw [eg,Bh]
 by_cases ga:Ft a=true
 ·rw [if_pos ga,ga,Bool.not_true,cond_false]
  by_cases f1:a.1.length=2
  ·rw [if_pos f1,nF,cond_false]
   obtain ⟨n,m,ea,n1,m1,la,ba⟩:=Gy ga f1
   have hj:f84_j2 a [1,0]=some (Sum.inl ()):=by
    unfold f84_j2 f84_j3
    rw [eg,ga,Bh,Bool.not_true,cond_false,nF (show (List.length [(1:Int),0]:Int)=(a.1.length:Int) by rw [f1];rfl)];rfl
   clear ga f1 eg
   generalize a.2=V at *
   subst ea
   have bm:m*n≤4096:=by rw [Nat.mul_comm];exact ba
   obtain ⟨pm,pmN⟩:=Kt m1 n1 bm
   have hd:Fp (fun go (x:Int×List Int)=>f84_l12 ([(n:Int),(m:Int)],V) [1,0] go x.1 x.2) Fv ((0:Int),[])=some (Sum.inr [(m:Int),(n:Int)]):=
    F3 (B:=fun go (x:Int×List Int)=>f84_l12 ([(n:Int),(m:Int)],V) [1,0] go x.1 x.2) (fun k=>((k:Int),[(m:Int),(n:Int)].take k)) 2 (Sum.inr [(m:Int),(n:Int)]) (fun k hk go=>by
     match k,hk with
     | 0,_=>
      have e:Fp (fun go x=>f84_l16 [1,0] 0 go x) Fv (0:Int)=some (Sum.inr ()):=by kernel_rfl
      show f84_l12 ([(n:Int),(m:Int)],V) [1,0] go 0 []=_
      unfold f84_l12
      rw [show decide ((0:Int)<(List.length [(1:Int),0]:Int))=true from rfl,cond_true,show f84_j14 [1,0] 0=some (Sum.inl ()) from rfl,Bh,Fq,e];rfl
     | 1,_=>
      have e:Fp (fun go x=>f84_l16 [1,0] 1 go x) Fv (0:Int)=some (Sum.inr ()):=by kernel_rfl
      show f84_l12 ([(n:Int),(m:Int)],V) [1,0] go 1 [(m:Int)]=_
      unfold f84_l12
      rw [show decide ((1:Int)<(List.length [(1:Int),0]:Int))=true from rfl,cond_true,show f84_j14 [1,0] 1=some (Sum.inl ()) from rfl,Bh,Fq,e];rfl) (fun go=>rfl) (by omega)
   have hT:f84 ([(n:Int),(m:Int)],V) [1,0]=some (0,[(m:Int),(n:Int)],F8 (m*n) (PlM.flipV n m V)):=by
    unfold f84
    rw [hj,Bh,Fq,hd,Bh,Gh,newR _ _ pm,pmN,Bh]
    simp only
    rw [turn_loop n m V n1 m1 la ba];rfl
   show Ey (f84 ([(n:Int),(m:Int)],V) [1,0]) _=_
   rw [hT];rfl
  ·rw [if_neg f1,nT];rfl
 ·rw [if_neg ga,show Ft a=false by simpa using ga];rfl
def sideV (V:List Int) (D st v:Nat):Int:=sat (sg (fun k=>rd (0:Int) V ((ixs D st v k:Nat):Int)) D)
def ins (p:List Int) (j:Nat) (k:Int):List Int:=p.take j++([k]++p.drop j)
def hQ (d:List Int) (j:Nat):Nat→Int
 | 0=>1
 | t+1=>hQ d j t*rd (0:Int) d ((j+1+t:Nat):Int)
theorem hQ_prod (d:List Int) (j:Nat):∀ t,j+1+t≤d.length→hQ d j t=Ge ((d.drop (j+1)).take t)
 | 0,_=>by simp [hQ,Ge]
 | t+1,h=>by
  rw [prodL_take t (by rw [List.length_drop];omega),rd_dropL (by omega),← hQ_prod d j t (by omega)]
  rfl
section
variable {d:List Int} {j H D st:Nat} (C:Cut d j H D st)
include C
theorem cut_len:(Kr d j).length=d.length-1:=by
 have:=C.hj
 unfold Kr;rw [List.length_append,List.length_take,List.length_drop];omega
theorem cut_lo {t:Nat} (ht:t<j):rd (0:Int) (Kr d j) (t:Int)=rd (0:Int) d (t:Int):=rd_take ht (by have:=C.hj;omega)
theorem cut_hi {t:Nat} (ht:j+1+t<d.length):rd (0:Int) (Kr d j) ((j+t:Nat):Int)=rd (0:Int) d ((j+1+t:Nat):Int):=by
 have:=C.hj
 unfold Kr
 rw [rd_skip (by omega) (by rw [List.length_drop];omega),rd_dropL (by omega)]
theorem ins_lo {p:List Int} (hp:p.length=d.length-1) (k:Int) {t:Nat} (ht:t<j):rd (0:Int) (ins p j k) (t:Int)=rd (0:Int) p (t:Int):=rd_take ht (by have:=C.hj;omega)
theorem ins_at {p:List Int} (hp:p.length=d.length-1) (k:Int):rd (0:Int) (ins p j k) (j:Int)=k:=by
 have:=C.hj
 have h:=rd_skip (d:=p) (X:=[k]++p.drop j) (j:=j) (t:=0) (by omega) (by simp)
 exact h
theorem ins_hi {p:List Int} (hp:p.length=d.length-1) (k:Int) {t:Nat} (ht:j+1+t<d.length):rd (0:Int) (ins p j k) ((j+1+t:Nat):Int)=rd (0:Int) p ((j+t:Nat):Int):=by
 have:=C.hj
 have h:=rd_skip (d:=p) (X:=[k]++p.drop j) (j:=j) (t:=t+1) (by omega) (by simp;omega)
 rw [show j+1+t=j+(t+1) by omega]
 unfold ins
 rw [h]
 have e:rd (0:Int) ([k]++p.drop j) ((t+1:Nat):Int)=rd (0:Int) (p.drop j) (t:Int):=by
  rw [Gi _ _ _ (by simp;omega),Gi _ _ _ (by rw [List.length_drop];omega)];rfl
 rw [e,rd_dropL (by omega)]
theorem ins_len {p:List Int} (hp:p.length=d.length-1) (k:Int):(ins p j k).length=d.length:=by
 have:=C.hj
 unfold ins;simp;omega
theorem ins_within {p:List Int} (W:Within (Kr d j) p) (k:Int) (k0:0≤k) (k1:k<(D:Int)):Within d (ins p j k):=by
 have hp:p.length=d.length-1:=by rw [W.len,cut_len C]
 have hj:=C.hj
 have cl:=cut_len C
 refine ⟨ins_len C hp k,fun t ht=>?_,fun t ht=>?_⟩
 ·by_cases h:t<j
  ·rw [ins_lo C hp k h];exact W.lo t (by omega)
  ·by_cases h2:t=j
   ·subst h2;rw [ins_at C hp k];exact k0
   ·obtain ⟨u,rfl⟩:∃ u,t=j+1+u:=⟨t-(j+1),by omega⟩
    rw [ins_hi C hp k ht];exact W.lo (j+u) (by omega)
 ·by_cases h:t<j
  ·rw [ins_lo C hp k h,← cut_lo C h];exact W.hi t (by omega)
  ·by_cases h2:t=j
   ·subst h2;rw [ins_at C hp k,C.eD];exact k1
   ·obtain ⟨u,rfl⟩:∃ u,t=j+1+u:=⟨t-(j+1),by omega⟩
    rw [ins_hi C hp k ht,← cut_hi C ht];exact W.hi (j+u) (by omega)
theorem hor_lo {p:List Int} (hp:p.length=d.length-1) (k:Int):∀ t,t≤j→hor d (ins p j k) t=hor (Kr d j) p t
 | 0,_=>rfl
 | t+1,h=>by
  simp only [hor]
  rw [hor_lo hp k t (by omega),ins_lo C hp k (by omega),cut_lo C (by omega)]
theorem hor_hi {p:List Int} (hp:p.length=d.length-1) (k:Int):∀ t,j+1+t≤d.length→hor d (ins p j k) (j+1+t)=(hor (Kr d j) p j*((D:Int)-1)+k)*hQ d j t+hor (Kr d j) p (j+t)
 | 0,_=>by
  show hor d (ins p j k) j*rd (0:Int) d (j:Int)+rd (0:Int) (ins p j k) (j:Int)=_
  rw [hor_lo C hp k j (Nat.le_refl _),ins_at C hp k,C.eD,Nat.add_zero]
  simp only [hQ]
  rw [Int.mul_one,Int.mul_sub,Int.mul_one];omega
 | t+1,h=>by
  have ih:=hor_hi hp k t (by omega)
  show hor d (ins p j k) (j+1+t)*rd (0:Int) d ((j+1+t:Nat):Int)+rd (0:Int) (ins p j k) ((j+1+t:Nat):Int)=_
  rw [ih,ins_hi C hp k (by omega)]
  have e:hor (Kr d j) p (j+(t+1))=hor (Kr d j) p (j+t)*rd (0:Int) d ((j+1+t:Nat):Int)+rd (0:Int) p ((j+t:Nat):Int):=by
   rw [← cut_hi C (by omega)];rfl
  rw [e]
  simp only [hQ]
  rw [Int.add_mul,Int.mul_assoc];omega
theorem rst_div (big:List Int) (v:Int) (hb:0<prd big):∀ k,k≤big.length→rst big v k=v/Kc big k
 | 0,_=>by rw [Kz,Int.ediv_one];rfl
 | k+1,h=>by
  have:=Gv hb k
  have:=Lf hb k (by omega)
  show rst big v k/Fw big k=_
  rw [rst_div big v hb k (by omega),Kh big k (by omega),Int.mul_comm,Int.ediv_ediv_of_nonneg (by omega)]
theorem at_ins (v:Nat) (hv:v<H*st) (k:Nat) (hk:k<D) :
  f38 d (ins (plc (Kr d j) (v:Int)) j (k:Int))=some (((ixs D st v k:Nat):Int),true):=by
 have hj:=C.hj
 have W:=plc_within C.posM (v:Int)
 have hp:(plc (Kr d j) (v:Int)).length=d.length-1:=by rw [W.len,cut_len C]
 have v1:(v:Int)<prd (Kr d j):=by rw [C.eM];omega
 have hc:=hor_plc C.posM (v:Int) (by omega) v1
 have cl:=cut_len C
 rw [atR C.pos (ins_within C W (k:Int) (by omega) (by omega))]
 have e:=hor_hi C hp (k:Int) (d.length-1-j) (by omega)
 rw [show j+1+(d.length-1-j)=d.length by omega,show j+(d.length-1-j)=(Kr d j).length by omega,hc _ (Nat.le_refl _),hc j (by omega),Nat.sub_self] at e
 have eQ:hQ d j (d.length-1-j)=(st:Int):=by
  rw [hQ_prod d j _ (by omega),List.take_of_length_le (by rw [List.length_drop];omega),C.eS]
 have eR:rst (Kr d j) (v:Int) ((Kr d j).length-j)=((v/st:Nat):Int):=by
  have es:Kc (Kr d j) ((Kr d j).length-j)=(st:Int):=by
   unfold Kc
   rw [show (Kr d j).length-((Kr d j).length-j)=j by omega]
   unfold Kr
   rw [List.drop_append_of_le_length (by rw [List.length_take];omega),List.drop_eq_nil_of_le (by rw [List.length_take];omega),List.nil_append]
   exact C.eS
  rw [rst_div C (Kr d j) (v:Int) C.posM _ (by omega),es,Int.natCast_ediv]
 rw [eQ,eR,show rst (Kr d j) (v:Int) 0=(v:Int) from rfl] at e
 rw [e]
 congr 2
 have d1:=C.D1
 have h3:v/st*st+v%st=v:=by rw [Nat.mul_comm];exact Nat.div_add_mod v st
 unfold ixs
 obtain ⟨D',rfl⟩:∃ D',D=D' + 1:=⟨D-1,by omega⟩
 have e1:(((D' + 1:Nat):Int)-1)=(D':Int):=by omega
 rw [e1,← Int.natCast_mul,← Int.natCast_add,← Int.natCast_mul,← Int.natCast_add]
 congr 1
 rw [Nat.mul_add,Nat.mul_one,Nat.add_right_comm,Nat.add_mul _ (v/st) st]
 omega
theorem ixs_in (v:Nat) (hv:v<H*st) (k:Nat) (hk:k<D):ixs D st v k<H*(D*st):=by
 have hs:=C.s1
 have hR:v/st<H:=Nat.div_lt_of_lt_mul (by rw [Nat.mul_comm];exact hv)
 have hl:v%st<st:=Nat.mod_lt _ hs
 unfold ixs
 have:=Jf (Jf (c:=H) (L:=D) hR hk) hl
 rw [Nat.mul_assoc] at this
 exact this
end
end Go.Proofs.Cv

