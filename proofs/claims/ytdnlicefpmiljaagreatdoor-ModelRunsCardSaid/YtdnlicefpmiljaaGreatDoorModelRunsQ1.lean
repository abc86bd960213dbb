import Derived.Test.YtdnlicefpmiljaaGreatDoorModelRunsQ0
import Derived.Test.YtdnlicefpmiljaaGreatDoorModelRunsS7
set_option linter.unusedVariables false
set_option linter.unusedSimpArgs false
set_option maxRecDepth 100000
set_option linter.unusedSectionVars false

namespace Go.Proofs.Op
open Go.AM Go.Proofs.PlB Go.Proofs.PlW Go.Proofs.PlT Go.Proofs.PlS Go.Proofs.Sh Go.Proofs.Num Go.Proofs.Div
abbrev Tn:=List Int×List Int
abbrev InR (x:Int):Prop:=-9223372036854775808≤x∧x<9223372036854775808
theorem sat_in (x:Int):InR (sat x):=PlR.sat_range x
theorem inI_tab {n:Nat} {g:Nat→Int} (h:∀ i,i<n→InR (g i)):inI (Gg n g):=PlR.tab_inI n g h
theorem inI_rd {l:List Int} (h:inI l) (i:Nat) (hi:i<l.length):InR (rd (0:Int) l (i:Int)):=inI_get h i hi
def J9 (f:Int→Int→Int) (a b:Tn):Int×Tn:=
 if Fz a=true∧Fz b=true then
  (if (jS a.1 b.1).1=0 then (0,(jS a.1 b.1).2,Gg (prd (jS a.1 b.1).2).toNat (fun i=>f (rd (0:Int) a.2 (spX a.1 (jS a.1 b.1).2 i)) (rd (0:Int) b.2 (spX b.1 (jS a.1 b.1).2 i)))) else ((jS a.1 b.1).1,[],[]))
 else (1,[],[])
theorem jS_zero {a b:List Int} (h:(jS a b).1=0):Joined a b (jS a b).2:=jS_joined (d:=(jS a b).2) (Prod.ext h rfl)
theorem addP (a b:Tn) (ia:inI a.2) (ib:inI b.2):f138 a b=some (J9 addV a b):=by
 unfold J9
 by_cases hg:Fz a=true∧Fz b=true
 ·rw [if_pos hg]
  by_cases hj:(jS a.1 b.1).1=0
  ·rw [if_pos hj]
   exact add_of a b _ ia ib hg.1 hg.2 (by rw [joinP,← hj]) (jS_zero hj)
  ·rw [if_neg hj]
   unfold f138 f166_167 f166_167_j2 f166_167_j3
   rw [show ((a.1,a.2):Tn)=a from rfl,show ((b.1,b.2):Tn)=b from rfl,Gv,Gv,hg.1,hg.2,joinP]
   simp only [Bh,Bool.not_true,cond_false,Fu]
   rw [nT hj];rfl
 ·rw [if_neg hg]
  unfold f138 f166_167 f166_167_j2 f166_167_j3
  rw [show ((a.1,a.2):Tn)=a from rfl,show ((b.1,b.2):Tn)=b from rfl,Gv,Gv]
  cases h1:Fz a <;> cases h2:Fz b <;> simp_all <;> rfl
theorem mulP (a b:Tn) (ia:inI a.2) (ib:inI b.2):f140 a b=some (J9 mulX a b):=by
 unfold J9
 by_cases hg:Fz a=true∧Fz b=true
 ·rw [if_pos hg]
  by_cases hj:(jS a.1 b.1).1=0
  ·rw [if_pos hj]
   exact mul_of a b _ ia ib hg.1 hg.2 (by rw [joinP,← hj]) (jS_zero hj)
  ·rw [if_neg hj]
   unfold f140 f166_169 f166_169_j2 f166_169_j3
   rw [show ((a.1,a.2):Tn)=a from rfl,show ((b.1,b.2):Tn)=b from rfl,Gv,Gv,hg.1,hg.2,joinP]
   simp only [Bh,Bool.not_true,cond_false,Fu]
   rw [nT hj];rfl
 ·rw [if_neg hg]
  unfold f140 f166_169 f166_169_j2 f166_169_j3
  rw [show ((a.1,a.2):Tn)=a from rfl,show ((b.1,b.2):Tn)=b from rfl,Gv,Gv]
  cases h1:Fz a <;> cases h2:Fz b <;> simp_all <;> rfl
theorem eachG (op:Int) (f:Int→Int→Int) (F:Int→Int→Option Int) (hF:∀ x y,InR x→InR y→F x y=some (f x y))
  (hl:∀ (a b:Tn) (r11:Int×List Int) (go:(Int×List Int)→Option (List Int)) (i:Int) (l6:List Int),f30_l4 op a b r11 go i l6 =
   bif (decide (i<(List.length l6:Int))) then
    Ey (f54 a.1 r11.2 i) fun r18=>Ey (f54 b.1 r11.2 i) fun r19=>
    E9 (0≤r18.1∧r18.1<(List.length a.2:Int))<|E9 (0≤r19.1∧r19.1<(List.length b.2:Int))<|
    Ey (F (rd (0:Int) a.2 r18.1) (rd (0:Int) b.2 r19.1)) fun q=>E9 (0≤i∧i<(List.length l6:Int))<|
    go ((IntKind.i64.wrap (i+(1:Int))),(List.set l6 (Int.toNat i) q))
   else some l6) (a b:Tn) (ia:inI a.2) (ib:inI b.2):f30 op a b=some (J9 f a b):=by
 unfold J9 f30 f30_j2 f30_j3
 rw [show ((a.1,a.2):Tn)=a from rfl,show ((b.1,b.2):Tn)=b from rfl,isR,isR]
 by_cases hg:Fz a=true∧Fz b=true
 ·rw [if_pos hg,hg.1,hg.2,joinR]
  simp only [Bh,Bool.not_true,cond_false,Fu]
  by_cases hj:(jS a.1 b.1).1=0
  ·have J:=jS_zero hj
   have hd:jS a.1 b.1=(0,(jS a.1 b.1).2):=Prod.ext hj rfl
   generalize (jS a.1 b.1).2=d at hd J
   simp only [hd]
   rw [if_pos trivial,nF rfl]
   simp only [cond_false]
   have hr:=F5 d
   have hp:=J.pd
   have ga:=(Ga hg.1).2.1
   have gb:=(Ga hg.2).2.1
   rw [newR d 0 J.pd,Bh]
   obtain ⟨N,hN⟩:∃ N:Nat,prd d=(N:Int):=⟨(prd d).toNat,by omega⟩
   rw [hN,Int.toNat_natCast]
   simp only
   rw [Jh N (fun i=>f (rd (0:Int) a.2 (spX a.1 d i)) (rd (0:Int) b.2 (spX b.1 d i)))]
   have:=F2 (B:=fun go (x:Int×List Int)=>f30_l4 op a b (0,d) go x.1 x.2) (fun k=>((k:Int),upto N k (fun i=>f (rd (0:Int) a.2 (spX a.1 d i)) (rd (0:Int) b.2 (spX b.1 d i))))) N
    (Gg N (fun i=>f (rd (0:Int) a.2 (spX a.1 d i)) (rd (0:Int) b.2 (spX b.1 d i)))) ?_ ?_ (by omega)
   ·rw [show ((0:Nat):Int)=0 from rfl] at this
    rw [this];rfl
   ·intro k hk go
    simp only [hl,Gr]
    obtain ⟨x0,x1⟩:=Kk J.fa k (by omega)
    obtain ⟨y0,y1⟩:=Kk J.fb k (by omega)
    have fa:=fromR J.fa k (by omega) (by omega)
    have fb:=fromR J.fb k (by omega) (by omega)
    rw [show accS a.1 d (k:Int) a.1.length=spX a.1 d k from rfl] at fa
    rw [show accS b.1 d (k:Int) b.1.length=spX b.1 d k from rfl] at fb
    rw [dT,cond_true,fa,Bh,fb,Bh]
    simp only
    obtain ⟨xn,hxn⟩:=Int.eq_ofNat_of_zero_le x0
    obtain ⟨yn,hyn⟩:=Int.eq_ofNat_of_zero_le y0
    have qa:=inI_rd ia xn (by omega)
    have qb:=inI_rd ib yn (by omega)
    rw [← hxn] at qa
    rw [← hyn] at qb
    rw [D4,D4,hF _ _ qa qb,Bh,D4,Fl,Int.toNat_natCast,Jz N k _ _ hk rfl]
    rfl
   ·intro go
    simp only [hl,Gr]
    rw [dF,cond_false,Ji]
  ·rw [if_neg hj,nT hj];rfl
 ·rw [if_neg hg]
  cases h1:Fz a <;> cases h2:Fz b <;> simp_all <;> rfl
theorem addR (a b:Tn) (ia:inI a.2) (ib:inI b.2):f30 0 a b=some (J9 addV a b):=
 eachG 0 addV f55 (fun x y hx hy=>rAdd x y hx.1 hx.2 hy.1 hy.2) (fun a b r go i l=>rfl) a b ia ib
theorem mulR (a b:Tn) (ia:inI a.2) (ib:inI b.2):f30 2 a b=some (J9 mulX a b):=
 eachG 2 mulX f57 (fun x y hx hy=>rMul x y hx.1 hx.2 hy.1 hy.2) (fun a b r go i l=>rfl) a b ia ib
theorem allP (a:Tn) (ia:inI a.2) (hg:Fz a=true):f147 a=some (sat (PlR.sumL a.2),0):=by
 obtain ⟨_,_,_,hl⟩:=Ga hg
 unfold f147
 rw [show ((a.1,a.2):Tn)=a from rfl,Gv,hg,Bh,Bool.not_true,cond_false,PlR.total_ok a.2 ia hl,Bh]
 rw [show ((PlV.pair (PlR.sumL a.2)).1,(PlV.pair (PlR.sumL a.2)).2)=PlV.pair (PlR.sumL a.2) from rfl,PlV.fix_ok _ (PlR.far_sum a.2 ia hl)]
 rfl
def bendV (kind x:Int):Int:=
 if kind=1 then (if x<0 then 0 else x)
 else if kind=2 then (if x>0 then x else sat (rdI (x*4294967296) 34359738368))
 else if kind=3 then (if x>4294967296 then 4294967296 else if x < -4294967296 then -4294967296 else x)
 else if kind=4 then (if x<0 then sat (-x) else x)
 else (if sat (sat (rdI (x*4294967296) 8589934592)+2147483648)<0 then 0 else if sat (sat (rdI (x*4294967296) 8589934592)+2147483648)>4294967296 then 4294967296 else sat (sat (rdI (x*4294967296) 8589934592)+2147483648))
theorem bendV_in (kind x:Int) (hx:InR x):InR (bendV kind x):=by
 have h1:=sat_in (rdI (x*4294967296) 34359738368)
 have h2:=sat_in (-x)
 have h3:=sat_in (sat (rdI (x*4294967296) 8589934592)+2147483648)
 unfold bendV InR at *
 split
 ·split <;> omega
 ·split
  ·split <;> omega
  ·split
   ·split <;> (try split) <;> omega
   ·split
    ·split <;> omega
    ·split <;> (try split) <;> omega
theorem bendR (kind x:Int) (hx:InR x):f52 kind x=some (bendV kind x):=by
 have s1:=sat_in (rdI (x*4294967296) 8589934592)
 unfold f52 bendV
 by_cases k1:kind=1
 ·rw [bT k1,if_pos k1,cond_true]
  by_cases h:x<0
  ·rw [dT h,if_pos h];rfl
  ·rw [dF h,if_neg h];rfl
 rw [bF k1,if_neg k1,cond_false]
 by_cases k2:kind=2
 ·rw [bT k2,if_pos k2,cond_true]
  by_cases h:x>0
  ·rw [dT h,if_pos h];rfl
  ·rw [dF h,if_neg h,cond_false,rOf8,Bh,rDiv x _ hx.1 hx.2 (by decide) (by decide) (by decide)];rfl
 rw [bF k2,if_neg k2,cond_false]
 by_cases k3:kind=3
 ·rw [bT k3,if_pos k3,cond_true]
  by_cases h:x>4294967296
  ·rw [dT h,if_pos h];rfl
  ·rw [dF h,if_neg h,cond_false]
   by_cases h:x < -4294967296
   ·rw [dT h,if_pos h];rfl
   ·rw [dF h,if_neg h];rfl
 rw [bF k3,if_neg k3,cond_false]
 by_cases k4:kind=4
 ·rw [bT k4,if_pos k4,cond_true]
  by_cases h:x<0
  ·rw [dT h,if_pos h,cond_true,rNeg x hx.1 hx.2];rfl
  ·rw [dF h,if_neg h];rfl
 rw [bF k4,if_neg k4,cond_false,rOf2,Bh,rDiv x _ hx.1 hx.2 (by decide) (by decide) (by decide),Bh,rAdd _ _ s1.1 s1.2 (by decide) (by decide),Bh]
 generalize sat (sat (rdI (x*4294967296) 8589934592)+2147483648)=y
 by_cases h:y<0
 ·rw [dT h,if_pos h];rfl
 ·rw [dF h,if_neg h,cond_false]
  by_cases h:y>4294967296
  ·rw [dT h,if_pos h];rfl
  ·rw [dF h,if_neg h];rfl
theorem pOf8:f213 8=some 34359738368:=by kernel_rfl
theorem pOf2:f213 2=some 8589934592:=by kernel_rfl
theorem negP (x:Int) (hx:InR x) (h:x<0):f215 x=some (sat (-x)):=by
 unfold InR at hx
 unfold f215 sat
 by_cases c:x=-9223372036854775808
 ·rw [bT c,iPo];rfl
 ·rw [bF c,iNo,iNo,cond_false,Fl]
  congr 1;omega
theorem withinP (y lo hi:Int) (h:lo≤hi):f214 y lo hi=some (if y>hi then hi else if y<lo then lo else y):=by
 unfold f214
 congr 1
 split <;> (try split) <;> (try split) <;> (try split) <;> omega
theorem bendP (kind x:Int) (k0:1≤kind) (k5:kind≤5) (hx:InR x):f186 kind x=some (bendV kind x,0):=by
 have s1:=sat_in (rdI (x*4294967296) 8589934592)
 unfold f186 bendV
 by_cases k1:kind=1
 ·rw [bT k1,if_pos k1,cond_true]
 rw [bF k1,if_neg k1,cond_false]
 by_cases k2:kind=2
 ·rw [bT k2,if_pos k2,cond_true]
  by_cases h:x>0
  ·rw [dT h,if_pos h];rfl
  ·rw [dF h,if_neg h,cond_false,pOf8,Bh,fdiv_ok x _ hx.1 hx.2 (by decide) (by decide) (by decide)];rfl
 rw [bF k2,if_neg k2,cond_false]
 by_cases k3:kind=3
 ·rw [bT k3,if_pos k3,cond_true,withinP _ _ _ (by decide)];rfl
 rw [bF k3,if_neg k3,cond_false]
 by_cases k4:kind=4
 ·rw [bT k4,if_pos k4,cond_true]
  by_cases h:x<0
  ·rw [dT h,if_pos h,cond_true,negP x hx h];rfl
  ·rw [dF h,if_neg h];rfl
 rw [bF k4,if_neg k4,cond_false,bT (by omega),cond_true,pOf2,Bh,fdiv_ok x _ hx.1 hx.2 (by decide) (by decide) (by decide),Bh,addF_ok _ _ s1.1 s1.2 (by decide) (by decide),Bh,withinP _ _ _ (by decide),Bh]
 unfold addV
 generalize sat (sat (rdI (x*4294967296) 8589934592)+2147483648)=y
 congr 2
 split <;> (try split) <;> (try split) <;> omega
def bentS (kind:Int) (t:Tn):Int×Tn:=if 1≤kind∧kind≤5∧Fz t=true then (0,t.1,Gg t.2.length (fun i=>bendV kind (rd (0:Int) t.2 i))) else (1,[],[])
theorem bentR (kind:Int) (t:Tn) (it:inI t.2):f29 kind t=some (bentS kind t):=by
 unfold f29 bentS f29_j2 f29_j3
 rw [show ((t.1,t.2):Tn)=t from rfl,isR]
 by_cases h:1≤kind∧kind≤5∧Fz t=true
 ·obtain ⟨hp,hl,_,l2⟩:=Ga h.2.2
  rw [if_pos h,dF,cond_false,dF,cond_false,h.2.2]
  simp only [Bh,Bool.not_true,cond_false,Fu]
  rw [newR t.1 0 hp,Bh,show (prd t.1).toNat=t.2.length by omega]
  simp only
  rw [Jh _ (fun i=>bendV kind (rd (0:Int) t.2 i))]
  have:=F2 (B:=fun go (x:Int×List Int)=>f29_l4 kind t go x.1 x.2) (fun j=>((j:Int),upto t.2.length j (fun i=>bendV kind (rd (0:Int) t.2 i)))) t.2.length (Gg t.2.length (fun i=>bendV kind (rd (0:Int) t.2 i))) ?_ ?_ (by omega)
  ·rw [show ((0:Nat):Int)=0 from rfl] at this
   rw [this];rfl
  ·intro j hj go
   unfold f29_l4
   simp only [Gr]
   rw [dT,cond_true,D4,bendR _ _ (inI_rd it j hj),Bh,D4,Fl,Int.toNat_natCast,Jz _ j _ _ hj rfl]
   rfl
  ·intro go
   unfold f29_l4
   simp only [Gr]
   rw [dF,cond_false,Ji]
 ·rw [if_neg h]
  by_cases h1:kind<1
  ·rw [dT h1];rfl
  ·rw [dF h1,cond_false]
   by_cases h2:kind>5
   ·rw [dT h2];rfl
   ·rw [dF h2,cond_false,show Fz t=false by cases ht:Fz t;rfl;exact absurd ⟨by omega,by omega,ht⟩ h];rfl
theorem bentP (kind:Int) (t:Tn) (it:inI t.2):f149 kind t=some (bentS kind t):=by
 unfold f149 bentS f149_j2 f149_j3 f185
 rw [show ((t.1,t.2):Tn)=t from rfl,Gv]
 by_cases h:1≤kind∧kind≤5∧Fz t=true
 ·obtain ⟨hp,hl,l1,l2⟩:=Ga h.2.2
  rw [if_pos h,dT,cond_true,Bh,dT (show kind≤5 by omega),h.2.2]
  simp only [Bh,Bool.not_true,cond_false,Fu]
  rw [copy_t t (by omega) (by omega),Bh]
  have:=F2 (B:=fun go (x:Int×List Int)=>f149_l4 kind t go x.1 x.2) (fun j=>((j:Int),Gg t.2.length (fun i=>if i<j then bendV kind (rd (0:Int) t.2 i) else rd (0:Int) t.2 i))) t.2.length (Gg t.2.length (fun i=>bendV kind (rd (0:Int) t.2 i))) ?_ ?_ (by omega)
  ·have e0:Gg t.2.length (fun i=>if i<0 then bendV kind (rd (0:Int) t.2 i) else rd (0:Int) t.2 i)=t.2:=by
    apply List.ext_getElem (Gn _ _)
    intro i h1 h2
    rw [tab_get,iNo,Gj _ _ _ h2]
   rw [show ((0:Nat):Int)=0 from rfl,e0] at this
   rw [this];rfl
  ·intro j hj go
   unfold f149_l4
   simp only [Gn]
   rw [dT,cond_true,D4,bendP _ _ h.1 h.2.1 (inI_rd it j hj),Bh,D4,Fl,Int.toNat_natCast,Kw]
   congr 1
   refine Prod.ext rfl (Gh _ _ _ (fun i hi=>?_))
   by_cases hik:i=j
   ·rw [if_pos hik,iPo,hik]
   ·rw [if_neg hik]
    by_cases h2:i<j
    ·rw [if_pos h2,iPo]
    ·rw [if_neg h2,iNo]
  ·intro go
   unfold f149_l4
   simp only
   rw [dF,cond_false]
   congr 1
   exact Gh _ _ _ (fun i hi=>by rw [if_pos hi])
 ·rw [if_neg h]
  by_cases h1:kind≥1
  ·rw [dT h1,cond_true,Bh]
   by_cases h2:kind≤5
   ·rw [dT h2,Bool.not_true,cond_false,Bh,show Fz t=false by cases ht:Fz t;rfl;exact absurd ⟨by omega,by omega,ht⟩ h];rfl
   ·rw [dF h2];rfl
  ·rw [dF h1];rfl
def reshS (a:Tn) (d:List Int):Int×Tn:=if Fz a=true∧0<prd d then (if prd d=a.2.length then (0,d,a.2) else (4,[],[])) else (1,[],[])
theorem reshR (a:Tn) (d:List Int):f104 a d=some (reshS a d):=by
 unfold f104 reshS f104_j2 f104_j3
 rw [show ((a.1,a.2):Tn)=a from rfl,isR,goodR,sizeR]
 by_cases h:Fz a=true∧0<prd d
 ·obtain ⟨_,_,_,l2⟩:=Ga h.1
  have:=G3 h.2
  rw [if_pos h,h.1,dT (show prd d>0 from h.2)]
  simp only [Bh,Bool.not_true,cond_false,Fu]
  by_cases h2:prd d=a.2.length
  ·rw [if_pos h2,nF h2,cond_false,D4 (by simp;omega),D4 (by simp;omega)];rfl
  ·rw [if_neg h2,nT h2];rfl
 ·rw [if_neg h]
  cases h1:Fz a
  ·rfl
  ·rw [dF (fun h3=>h ⟨h1,h3⟩)];rfl
theorem reshP (a:Tn) (d:List Int):f151 a d=some (reshS a d):=by
 unfold f151 reshS f151_j2 f151_j3
 rw [show ((a.1,a.2):Tn)=a from rfl,Gv,Gw,PlB.size_ok]
 by_cases h:Fz a=true∧0<prd d
 ·obtain ⟨_,_,_,l2⟩:=Ga h.1
  have:=G3 h.2
  rw [if_pos h,h.1,dT (show prd d>0 from h.2)]
  simp only [Bh,Bool.not_true,cond_false]
  by_cases h2:prd d=a.2.length
  ·rw [if_pos h2,nF h2,cond_false,Bh,Fu,clone_d d (by omega),Bh,clone_v a.2 (by omega)];rfl
  ·rw [if_neg h2,nT h2];rfl
 ·rw [if_neg h]
  cases h1:Fz a
  ·rfl
  ·rw [dF (fun h3=>h ⟨h1,h3⟩)];rfl
theorem sameP (a b:List Int) (h:a.length<4611686018427387904):f88 a b=some (decide (a=b)):=by
 unfold f88
 rw [show f115 a b=f13 a b from rfl,sameR a b h];rfl
end Go.Proofs.Op
namespace Go.Proofs.Cv
open Go.AM Go.Proofs.PlB Go.Proofs.PlW Go.Proofs.PlT Go.Proofs.PlS Go.Proofs.Sh Go.Proofs.Num Go.Proofs.Div Go.Proofs.Op
def sg (F:Nat→Int):Nat→Int
 | 0=>0
 | k+1=>sg F k+F k
theorem sg_congr {F G:Nat→Int}:∀ n,(∀ k,k<n→F k=G k)→sg F n=sg G n
 | 0,_=>rfl
 | n+1,h=>by simp only [sg];rw [sg_congr n (fun k hk=>h k (by omega)),h n (by omega)]
def Pb (x:Int):Prop:=-85070591730234615865843651857942052864≤x∧x≤85070591730234615865843651857942052864
theorem pb_mul {a b:Int} (ha:InR a) (hb:InR b):Pb (a*b):=prodBnd a b ha.1 ha.2 hb.1 hb.2
theorem sg_bd (F:Nat→Int):∀ n,(∀ k,k<n→Pb (F k))→-(n*85070591730234615865843651857942052864)≤sg F n∧sg F n≤n*85070591730234615865843651857942052864
 | 0,_=>by simp [sg]
 | n+1,h=>by
  have:=sg_bd F n (fun k hk=>h k (by omega))
  have h2:=h n (by omega)
  unfold Pb at h2
  simp only [sg]
  constructor <;> omega
theorem sg_sm (F:Nat→Int) (n:Nat) (hn:n≤4096) (h:∀ k,k<n→Pb (F k)) : -1000000000000000000000000000000000000000000≤sg F n∧sg F n≤1000000000000000000000000000000000000000000:=by
 have:=sg_bd F n h
 omega
def acc (S:Int):Int×Int×Int:=(S/340282366920938463463374607431768211456,IntKind.i64.wrap (S/18446744073709551616),S%18446744073709551616)
theorem acc_zero:acc 0=(0,0,0):=by
 unfold acc
 rw [show (0:Int)/340282366920938463463374607431768211456=0 by omega,show (0:Int)/18446744073709551616=0 by omega,show (0:Int)%18446744073709551616=0 by omega,Fl]
theorem acc_plus (S a b:Int) (hs : -1000000000000000000000000000000000000000000≤S∧S≤1000000000000000000000000000000000000000000) (ha:InR a) (hb:InR b) :
  f176 (acc S).1 (acc S).2.1 (acc S).2.2 a b=some (acc (S+a*b)):=plus_ok S a b (by omega) (by omega) ha.1 ha.2 hb.1 hb.2
theorem acc_fix (S:Int) (hs : -1000000000000000000000000000000000000000000≤S∧S≤1000000000000000000000000000000000000000000) :
  ∃ z,f177 (acc S).1 (acc S).2.1 (acc S).2.2 32=some (sat (rhe S),z):=by
 obtain ⟨x,y,z,e⟩:=accFix_ok S (by omega) (by omega)
 exact ⟨_,e⟩
theorem progdot {B:(Int×Int×Int×Int→Option (Int×Int×Int))→Int×Int×Int×Int→Option (Int×Int×Int)} (F:Nat→Int) (m n:Nat) (a b:Nat→Int) (hmn:m+n≤4096)
  (hF:∀ k,k<n→F (m+k)=a k*b k) (ha:∀ k,k<n→InR (a k)) (hb:∀ k,k<n→InR (b k)) (hp:∀ t,t<m+n→Pb (F t))
  (hs:∀ k,k<n→∀ z go,B go ((k:Int),z)=Ey (f176 z.1 z.2.1 z.2.2 (a k) (b k)) fun q=>go (((k+1:Nat):Int),q))
  (he:∀ z go,B go ((n:Int),z)=some z):Fq B Fv ((0:Int),acc (sg F m))=some (acc (sg F (m+n))):=by
 refine F2 (B:=B) (fun k=>((k:Int),acc (sg F (m+k)))) n (acc (sg F (m+n))) ?_ ?_ (by omega)
 ·intro k hk go
  rw [hs k hk,acc_plus _ _ _ (sg_sm F (m+k) (by omega) (fun t ht=>hp t (by omega))) (ha k hk) (hb k hk),Bh,← hF k hk]
  rfl
 ·intro go;exact he _ go
theorem refdot {B:(Int×Bool×Int×Int×Int×Int→Option (Bool×Int×Int×Int×Int))→Int×Bool×Int×Int×Int×Int→Option (Bool×Int×Int×Int×Int)} (F:Nat→Int) (m n:Nat) (a b:Nat→Int) (hmn:m+n≤4096)
  (hF:∀ k,k<n→F (m+k)=a k*b k) (ha:∀ k,k<n→InR (a k)) (hb:∀ k,k<n→InR (b k)) (hp:∀ t,t<m+n→Pb (F t))
  (hs:∀ k,k<n→∀ z go,B go ((k:Int),z)=Ey (f86 (a k) (b k)) fun q=>Ey (f82 z.1 z.2.1 z.2.2.1 z.2.2.2.1 z.2.2.2.2 q.1 q.2.1 q.2.2.1 q.2.2.2.1 q.2.2.2.2) fun q=>go (((k+1:Nat):Int),q))
  (he:∀ z go,B go ((n:Int),z)=some z) (x:Bool×Int×Int×Int×Int) (hx:Nm (sg F m) x):∃ z,Fq B Fv ((0:Int),x)=some z∧Nm (sg F (m+n)) z:=by
 refine loop_rel (B:=B) (fun k y=>y.1=(k:Int)∧Nm (sg F (m+k)) y.2) (fun z=>Nm (sg F (m+n)) z) n ((0:Int),x) ⟨rfl,hx⟩ ?_ ?_ (by omega)
 ·rintro k hk ⟨_,y⟩ ⟨rfl,hy⟩
  simp only at hy
  have qa:=ha k hk
  have qb:=hb k hk
  obtain ⟨t,et,ht⟩:=times_nm (a k) (b k) qa.1 qa.2 qb.1 qb.2
  have s1:=sg_sm F (m+k) (by omega) (fun t ht=>hp t (by omega))
  have s2:=pb_mul qa qb
  unfold Pb at s2
  have t1:Sm (sg F (m+k)):=by unfold Sm;omega
  have t2:Sm (a k*b k):=by unfold Sm;omega
  obtain ⟨z,ez,hz⟩:=plus_nm hy ht t1 t2
  refine ⟨(((k+1:Nat):Int),z),fun go=>?_,rfl,?_⟩
  ·rw [hs k hk,et,Bh,ez,Bh]
  ·rw [← hF k hk] at hz;exact hz
 ·rintro ⟨_,y⟩ ⟨rfl,hy⟩
  exact ⟨y,fun go=>he y go,hy⟩
theorem ref_end {S:Int} {x:Bool×Int×Int×Int×Int} (hx:Nm S x) (hs : -1000000000000000000000000000000000000000000≤S∧S≤1000000000000000000000000000000000000000000) :
  ∃ z,f85 x.1 x.2.1 x.2.2.1 x.2.2.2.1 x.2.2.2.2 32=some z∧f81 z.1 z.2.1 z.2.2.1 z.2.2.2.1 z.2.2.2.2=some (sat (rhe S)):=by
 obtain ⟨z,ez,hz⟩:=halved_nm hx (by unfold Sm;omega)
 exact ⟨z,ez,held_nm hz (sm_rhe hs)⟩
theorem wnat {n:Nat} (h:n<1000000000):IntKind.i64.wrap (n:Int)=(n:Int):=Fl (by omega) (by omega)
theorem wmul (a b:Nat) (h:a*b<1000000000):IntKind.i64.wrap ((a:Int)*b)=((a*b:Nat):Int):=by rw [← Int.natCast_mul];exact wnat h
theorem wadd (a b:Nat) (h:a+b<1000000000):IntKind.i64.wrap ((a:Int)+b)=((a+b:Nat):Int):=by rw [← Int.natCast_add];exact wnat h
theorem G1 (a:Nat) (h:a<100000000:=by omega):IntKind.i64.wrap ((a:Int)+1)=((a+1:Nat):Int):=wadd a 1 (by omega)
theorem ixA (x L n s y:Nat) (h:x*L+n*s+y<1000000):IntKind.i64.wrap (IntKind.i64.wrap (IntKind.i64.wrap ((x:Int)*L)+IntKind.i64.wrap ((n:Int)*s))+y)=((x*L+n*s+y:Nat):Int):=by
 rw [wmul x L (by omega),wmul n s (by omega),wadd _ _ (by omega),wadd _ _ (by omega)]
theorem ixM (i c x:Nat) (h:i*c+x<1000000):IntKind.i64.wrap (IntKind.i64.wrap ((i:Int)*c)+x)=((i*c+x:Nat):Int):=by
 rw [wmul i c (by omega),wadd _ _ (by omega)]
theorem ixK (i c x w y:Nat) (hw:1≤w) (h:(i*c+x)*w+y<1000000):IntKind.i64.wrap (IntKind.i64.wrap (IntKind.i64.wrap (IntKind.i64.wrap ((i:Int)*c)+x)*w)+y)=(((i*c+x)*w+y:Nat):Int):=by
 have:i*c+x≤(i*c+x)*w:=Nat.le_mul_of_pos_right _ hw
 rw [ixM i c x (by omega),wmul _ _ (by omega),wadd _ _ (by omega)]
theorem rdIn {l:List Int} (h:inI l) {i:Nat} (hi:i<l.length):InR (rd (0:Int) l (i:Int)):=inI_rd h i hi
theorem in_mat {x y c L:Nat} (hx:x<c) (hy:y<L):x*L+y<c*L:=by
 have:(x+1)*L≤c*L:=Nat.mul_le_mul_right _ hx
 rw [Nat.add_mul,Nat.one_mul] at this
 omega
theorem div_mat {x y L:Nat} (hy:y<L):(x*L+y)/L=x∧(x*L+y)%L=y:=by
 have h0:0<L:=by omega
 constructor
 ·rw [Nat.mul_comm,Nat.mul_add_div h0,Nat.div_eq_of_lt hy,Nat.add_zero]
 ·rw [Nat.mul_comm,Nat.mul_add_mod,Nat.mod_eq_of_lt hy]
def Gf (L w s:Nat):Nat:=(L-w)/s+1
def rowF (A K:List Int) (c L w s i n t:Nat):Int:=rd (0:Int) A ((t/w*L+n*s+t%w:Nat):Int)*rd (0:Int) K ((i*(c*w)+t:Nat):Int)
def rowV (A K:List Int) (c L w s q:Nat):Int:=sat (rhe (sg (rowF A K c L w s (q/Gf L w s) (q%Gf L w s)) (c*w)))
theorem step_in {L w s n y:Nat} (hw:w≤L) (hn:n<Gf L w s) (hy:y<w) (hs:1≤s):n*s+y<L:=by
 unfold Gf at hn
 have h1:n≤(L-w)/s:=by omega
 have h2:n*s≤(L-w)/s*s:=Nat.mul_le_mul_right _ h1
 have h3:(L-w)/s*s≤L-w:=Nat.div_mul_le_self _ _
 omega
theorem prod3 {o c w:Int} (h:0<prd [o,c,w]):1≤o∧1≤c∧1≤w∧prd [o,c,w]=o*(c*w):=by
 obtain ⟨e,h1,_⟩:=Gs h
 refine ⟨(h1 o (by simp)).1,(h1 c (by simp)).1,(h1 w (by simp)).1,?_⟩
 rw [e];simp [Fp]
theorem prod2 {c L:Int} (h:0<prd [c,L]):1≤c∧1≤L∧prd [c,L]=c*L:=by
 obtain ⟨e,h1,_⟩:=Gs h
 refine ⟨(h1 c (by simp)).1,(h1 L (by simp)).1,?_⟩
 rw [e];simp [Fp]
section
variable (A K:List Int) (c L o w s:Nat) (c1:1≤c) (w1:1≤w) (hA:A.length=c*L) (hK:K.length=o*(c*w)) (bA:c*L≤4096) (bK:o*(c*w)≤4096) (hw:w≤L) (s1:1≤s) (s64:s≤64) (iA:inI A) (iK:inI K)
include c1 w1 hA hK bA bK hw s1 s64 iA iK
theorem row_a {n x y:Nat} (hn:n<Gf L w s) (hx:x<c) (hy:y<w):x*L+n*s+y<A.length:=by
 have h1:=step_in hw hn hy s1
 have h2:=in_mat (c:=c) hx h1
 rw [hA];omega
theorem row_k {i x y:Nat} (hi:i<o) (hx:x<c) (hy:y<w):(i*c+x)*w+y<K.length∧(i*c+x)*w+y=i*(c*w)+(x*w+y):=by
 have e:(i*c+x)*w+y=i*(c*w)+(x*w+y):=by rw [Nat.add_mul,Nat.mul_assoc];omega
 refine ⟨?_,e⟩
 rw [e,hK]
 exact in_mat hi (in_mat hx hy)
theorem row_f {i n x y:Nat} (hy:y<w):rowF A K c L w s i n (x*w+y)=rd (0:Int) A ((x*L+n*s+y:Nat):Int)*rd (0:Int) K (((i*c+x)*w+y:Nat):Int):=by
 unfold rowF
 obtain ⟨d1,d2⟩:=div_mat (x:=x) hy
 have e:(i*c+x)*w+y=i*(c*w)+(x*w+y):=by rw [Nat.add_mul,Nat.mul_assoc];omega
 rw [d1,d2,e]
theorem row_p {i n t:Nat} (hi:i<o) (hn:n<Gf L w s) (ht:t<c*w):Pb (rowF A K c L w s i n t):=by
 have hx:t/w<c:=Nat.div_lt_of_lt_mul (by rw [Nat.mul_comm];exact ht)
 have hy:t%w<w:=Nat.mod_lt _ w1
 have e:t/w*w+t%w=t:=by rw [Nat.mul_comm];exact Nat.div_add_mod t w
 have:=row_f A K c L o w s c1 w1 hA hK bA bK hw s1 s64 iA iK (i:=i) (n:=n) (x:=t/w) hy
 rw [e] at this
 rw [this]
 exact pb_mul (rdIn iA (row_a A K c L o w s c1 w1 hA hK bA bK hw s1 s64 iA iK hn hx hy)) (rdIn iK (row_k A K c L o w s c1 w1 hA hK bA bK hw s1 s64 iA iK hi hx hy).1)
theorem row_cw (ho:1≤o):c*w≤4096:=Nat.le_trans (Nat.le_mul_of_pos_left _ ho) bK
theorem row_sumP (q:Nat) (hq:q<o*Gf L w s) :
  Fq (fun go (x:Int×Int×Int×Int)=>f142_l17 ([(c:Int),(L:Int)],A) ([(o:Int),(c:Int),(w:Int)],K) s (Gf L w s:Int) (q:Int) go x.1 x.2.1 x.2.2.1 x.2.2.2) Fv ((0:Int),(0:Int),(0:Int),(0:Int))
   = some (acc (sg (rowF A K c L w s (q/Gf L w s) (q%Gf L w s)) (c*w))):=by
 have m1:1≤Gf L w s:=Nat.le_add_left 1 _
 have ho:1≤o:=Nat.pos_of_ne_zero (fun h=>by rw [h,Nat.zero_mul] at hq;exact absurd hq (Nat.not_lt_zero _))
 have hcw:=row_cw A K c L o w s c1 w1 hA hK bA bK hw s1 s64 iA iK ho
 have hi:q/Gf L w s<o:=Nat.div_lt_of_lt_mul (by rw [Nat.mul_comm];exact hq)
 have hn:q%Gf L w s<Gf L w s:=Nat.mod_lt _ m1
 have eI:IntKind.i64.wrap (Int.tdiv (q:Int) (Gf L w s:Int))=((q/Gf L w s:Nat):Int):=by
  rw [Int.tdiv_eq_ediv_of_nonneg (by omega),← Int.natCast_ediv]
  have:q/Gf L w s≤q:=Nat.div_le_self _ _
  have hl:Gf L w s≤4097:=by unfold Gf;have:=Nat.div_le_self (L-w) s;have:L≤c*L:=Nat.le_mul_of_pos_left _ c1;omega
  have:o≤o*(c*w):=Nat.le_mul_of_pos_right _ (Nat.mul_pos c1 w1)
  exact wnat (by omega)
 have eN:Int.tmod (q:Int) (Gf L w s:Int)=((q%Gf L w s:Nat):Int):=by
  rw [Int.tmod_eq_emod_of_nonneg (by omega),← Int.natCast_emod]
 generalize q/Gf L w s=i at *
 generalize q%Gf L w s=n at *
 have h:=F2 (B:=fun go (x:Int×Int×Int×Int)=>f142_l17 ([(c:Int),(L:Int)],A) ([(o:Int),(c:Int),(w:Int)],K) s (Gf L w s:Int) (q:Int) go x.1 x.2.1 x.2.2.1 x.2.2.2)
  (fun x=>((x:Int),acc (sg (rowF A K c L w s i n) (x*w)))) c (acc (sg (rowF A K c L w s i n) (c*w))) ?_ ?_ (by have:c≤c*w:=Nat.le_mul_of_pos_right _ w1;omega)
 ·rw [Nat.zero_mul] at h
  have e0:acc (sg (rowF A K c L w s i n) 0)=((0:Int),(0:Int),(0:Int)):=acc_zero
  rw [e0] at h
  exact h
 ·intro x hx go
  have hc:c≤c*w:=Nat.le_mul_of_pos_right _ w1
  unfold f142_l17
  simp only
  rw [show rd (0:Int) [(c:Int),(L:Int)] 0=(c:Int) from rfl,dT,cond_true]
  have hxw:x*w+w≤c*w:=by have:=Nat.mul_le_mul_right w (show x+1≤c from hx);rw [Nat.add_mul,Nat.one_mul] at this;exact this
  have inner:=progdot (B:=fun go (z:Int×Int×Int×Int)=>f142_l18 ([(c:Int),(L:Int)],A) ([(o:Int),(c:Int),(w:Int)],K) s (Gf L w s:Int) (q:Int) (x:Int) go z.1 z.2.1 z.2.2.1 z.2.2.2)
   (rowF A K c L w s i n) (x*w) w (fun y=>rd (0:Int) A ((x*L+n*s+y:Nat):Int)) (fun y=>rd (0:Int) K (((i*c+x)*w+y:Nat):Int)) (by omega)
   (fun y hy=>row_f A K c L o w s c1 w1 hA hK bA bK hw s1 s64 iA iK hy)
   (fun y hy=>rdIn iA (row_a A K c L o w s c1 w1 hA hK bA bK hw s1 s64 iA iK hn hx hy)) (fun y hy=>rdIn iK (row_k A K c L o w s c1 w1 hA hK bA bK hw s1 s64 iA iK hi hx hy).1)
   (fun t ht=>row_p A K c L o w s c1 w1 hA hK bA bK hw s1 s64 iA iK hi hn (by omega)) ?_ ?_
  ·have e:sg (rowF A K c L w s i n) (x*w+w)=sg (rowF A K c L w s i n) ((x+1)*w):=by rw [Nat.add_mul,Nat.one_mul]
   rw [e] at inner
   have inner':Fq (fun go (z:Int×Int×Int×Int)=>f142_l18 ([(c:Int),(L:Int)],A) ([(o:Int),(c:Int),(w:Int)],K) s (Gf L w s:Int) (q:Int) (x:Int) go z.1 z.2.1 z.2.2.1 z.2.2.2) Fv ((0:Int),(acc (sg (rowF A K c L w s i n) (x*w))).1,(acc (sg (rowF A K c L w s i n) (x*w))).2.1,(acc (sg (rowF A K c L w s i n) (x*w))).2.2)=_:=inner
   rw [inner',Bh,G1 x]
  ·intro y hy z go
   have ha:=row_a A K c L o w s c1 w1 hA hK bA bK hw s1 s64 iA iK hn hx hy
   have hk:=(row_k A K c L o w s c1 w1 hA hK bA bK hw s1 s64 iA iK hi hx hy).1
   unfold f142_l18
   simp only
   rw [show rd (0:Int) [(o:Int),(c:Int),(w:Int)] 2=(w:Int) from rfl,show rd (0:Int) [(c:Int),(L:Int)] 1=(L:Int) from rfl,show rd (0:Int) [(c:Int),(L:Int)] 0=(c:Int) from rfl,dT,cond_true,eI,eN,
    ixA x L n s y (by omega),ixK i c x w y w1 (by omega),D4,D4,G1 y]
  ·intro z go
   unfold f142_l18
   simp only
   rw [show rd (0:Int) [(o:Int),(c:Int),(w:Int)] 2=(w:Int) from rfl,dF,cond_false]
 ·intro go
  unfold f142_l17
  simp only
  rw [show rd (0:Int) [(c:Int),(L:Int)] 0=(c:Int) from rfl,dF,cond_false]
theorem row_sumR (i n:Nat) (hi:i<o) (hn:n<Gf L w s) :
  ∃ z,Fq (fun go (x:Int×Bool×Int×Int×Int×Int)=>f102_l45 ([(c:Int),(L:Int)],A) ([(o:Int),(c:Int),(w:Int)],K) s (i:Int) (n:Int) go x.1 x.2.1 x.2.2.1 x.2.2.2.1 x.2.2.2.2.1 x.2.2.2.2.2) Fv ((0:Int),false,(0:Int),(0:Int),(0:Int),(0:Int))=some z∧
   Nm (sg (rowF A K c L w s i n) (c*w)) z:=by
 have ho:1≤o:=by omega
 have hcw:=row_cw A K c L o w s c1 w1 hA hK bA bK hw s1 s64 iA iK ho
 have hc:c≤c*w:=Nat.le_mul_of_pos_right _ w1
 refine loop_rel (B:=fun go (x:Int×Bool×Int×Int×Int×Int)=>f102_l45 ([(c:Int),(L:Int)],A) ([(o:Int),(c:Int),(w:Int)],K) s (i:Int) (n:Int) go x.1 x.2.1 x.2.2.1 x.2.2.2.1 x.2.2.2.2.1 x.2.2.2.2.2)
  (fun x y=>y.1=(x:Int)∧Nm (sg (rowF A K c L w s i n) (x*w)) y.2) (fun z=>Nm (sg (rowF A K c L w s i n) (c*w)) z) c _ ⟨rfl,by rw [Nat.zero_mul];exact nm_zero⟩ ?_ ?_ (by omega)
 ·rintro x hx ⟨_,u⟩ ⟨rfl,hu⟩
  simp only at hu
  have hxw:x*w+w≤c*w:=by have:=Nat.mul_le_mul_right w (show x+1≤c from hx);rw [Nat.add_mul,Nat.one_mul] at this;exact this
  obtain ⟨z,ez,hz⟩:=refdot (B:=fun go (z:Int×Bool×Int×Int×Int×Int)=>f102_l46 ([(c:Int),(L:Int)],A) ([(o:Int),(c:Int),(w:Int)],K) s (i:Int) (n:Int) (x:Int) go z.1 z.2.1 z.2.2.1 z.2.2.2.1 z.2.2.2.2.1 z.2.2.2.2.2)
   (rowF A K c L w s i n) (x*w) w (fun y=>rd (0:Int) A ((x*L+n*s+y:Nat):Int)) (fun y=>rd (0:Int) K (((i*c+x)*w+y:Nat):Int)) (by omega)
   (fun y hy=>row_f A K c L o w s c1 w1 hA hK bA bK hw s1 s64 iA iK hy)
   (fun y hy=>rdIn iA (row_a A K c L o w s c1 w1 hA hK bA bK hw s1 s64 iA iK hn hx hy)) (fun y hy=>rdIn iK (row_k A K c L o w s c1 w1 hA hK bA bK hw s1 s64 iA iK hi hx hy).1)
   (fun t ht=>row_p A K c L o w s c1 w1 hA hK bA bK hw s1 s64 iA iK hi hn (by omega)) (by
    intro y hy z go
    have ha:=row_a A K c L o w s c1 w1 hA hK bA bK hw s1 s64 iA iK hn hx hy
    have hk:=(row_k A K c L o w s c1 w1 hA hK bA bK hw s1 s64 iA iK hi hx hy).1
    unfold f102_l46
    simp only
    rw [show rd (0:Int) [(o:Int),(c:Int),(w:Int)] 2=(w:Int) from rfl,show rd (0:Int) [(c:Int),(L:Int)] 1=(L:Int) from rfl,show rd (0:Int) [(c:Int),(L:Int)] 0=(c:Int) from rfl,dT,cond_true,
     ixA x L n s y (by omega),ixK i c x w y w1 (by omega),D4,D4,G1 y]) (by
    intro z go
    unfold f102_l46
    simp only
    rw [show rd (0:Int) [(o:Int),(c:Int),(w:Int)] 2=(w:Int) from rfl,dF,cond_false]) u hu
  refine ⟨(((x+1:Nat):Int),z),fun go=>?_,rfl,by simp only;rw [Nat.add_mul,Nat.one_mul];exact hz⟩
  unfold f102_l45
  simp only
  have ez':Fq (fun go (z:Int×Bool×Int×Int×Int×Int)=>f102_l46 ([(c:Int),(L:Int)],A) ([(o:Int),(c:Int),(w:Int)],K) s (i:Int) (n:Int) (x:Int) go z.1 z.2.1 z.2.2.1 z.2.2.2.1 z.2.2.2.2.1 z.2.2.2.2.2) Fv ((0:Int),u.1,u.2.1,u.2.2.1,u.2.2.2.1,u.2.2.2.2)=some z:=ez
  rw [show rd (0:Int) [(c:Int),(L:Int)] 0=(c:Int) from rfl,dT,cond_true,ez',Bh,G1 x]
 ·rintro ⟨_,u⟩ ⟨rfl,hu⟩
  refine ⟨u,fun go=>?_,hu⟩
  unfold f102_l45
  simp only
  rw [show rd (0:Int) [(c:Int),(L:Int)] 0=(c:Int) from rfl,dF,cond_false]
end
theorem win_eq (L w s:Nat) (hw:w≤L) (hl:L≤100000):IntKind.i64.wrap (IntKind.i64.wrap (Int.tdiv (IntKind.i64.wrap ((L:Int)-(w:Int))) (s:Int))+1)=(Gf L w s:Int):=by
 have e:(L:Int)-(w:Int)=((L-w:Nat):Int):=by omega
 have:=Nat.div_le_self (L-w) s
 rw [e,wnat (by omega),Int.tdiv_eq_ediv_of_nonneg (by omega),← Int.natCast_ediv,wnat (by omega),G1 _]
 rfl
theorem winP (L w s:Nat) (hw:w≤L) (hl:L≤100000) (s1:1≤s):f174 (L:Int) (w:Int) (s:Int)=some (Gf L w s:Int):=by
 unfold f174
 rw [dF,cond_false,D4,win_eq L w s hw hl]
theorem of_ok (d:List Int):f175 d=some (if 0<prd d then (0,d,List.replicate (prd d).toNat 0) else (2,[],[])):=by
 unfold f175
 rw [new_ok]
 by_cases h:0<prd d
 ·rw [if_pos h,if_pos h,Bh,nF rfl];rfl
 ·rw [if_neg h,if_neg h,Bh,nT (by decide:¬(1:Int)=0)];rfl
section
variable (A K:List Int) (c L o w s:Nat) (c1:1≤c) (w1:1≤w) (hA:A.length=c*L) (hK:K.length=o*(c*w)) (bA:c*L≤4096) (bK:o*(c*w)≤4096) (hw:w≤L) (s1:1≤s) (s64:s≤64) (iA:inI A) (iK:inI K) (o1:1≤o)
include c1 w1 hA hK bA bK hw s1 s64 iA iK o1
theorem row_loopP (n0:0<prd [(o:Int),(Gf L w s:Int)]) :
  Fq (fun go (x:Int×List Int)=>f142_l14 ([(c:Int),(L:Int)],A) ([(o:Int),(c:Int),(w:Int)],K) s (Gf L w s:Int) (0,[(o:Int),(Gf L w s:Int)],List.replicate (o*Gf L w s) 0) go x.1 x.2) Fv ((0:Int),List.replicate (o*Gf L w s) 0)=some (Gg (o*Gf L w s) (rowV A K c L w s)):=by
 have hp:=(prod2 n0).2.2
 have hr:=F5 [(o:Int),(Gf L w s:Int)]
 have hN:((o*Gf L w s:Nat):Int)≤4096:=by rw [Int.natCast_mul];omega
 rw [Jh _ (rowV A K c L w s)]
 have h:=F2 (B:=fun go (x:Int×List Int)=>f142_l14 ([(c:Int),(L:Int)],A) ([(o:Int),(c:Int),(w:Int)],K) s (Gf L w s:Int) (0,[(o:Int),(Gf L w s:Int)],upto (o*Gf L w s) 0 (rowV A K c L w s)) go x.1 x.2) (fun q=>((q:Int),upto (o*Gf L w s) q (rowV A K c L w s))) (o*Gf L w s) (Gg (o*Gf L w s) (rowV A K c L w s)) ?_ ?_ (by omega)
 ·exact h
 ·intro q hq go
  unfold f142_l14
  simp only [Gr]
  have m1:1≤Gf L w s:=Nat.le_add_left 1 _
  have m0:(Gf L w s:Int)≠0:=by omega
  have hcw:=row_cw A K c L o w s c1 w1 hA hK bA bK hw s1 s64 iA iK o1
  have hi:q/Gf L w s<o:=Nat.div_lt_of_lt_mul (by rw [Nat.mul_comm];exact hq)
  have hn:q%Gf L w s<Gf L w s:=Nat.mod_lt _ (Nat.le_add_left 1 _)
  obtain ⟨z,ez⟩:=acc_fix (sg (rowF A K c L w s (q/Gf L w s) (q%Gf L w s)) (c*w)) (sg_sm _ _ hcw (fun t ht=>row_p A K c L o w s c1 w1 hA hK bA bK hw s1 s64 iA iK hi hn ht))
  rw [dT,cond_true,D4 m0,D4 m0,row_sumP A K c L o w s c1 w1 hA hK bA bK hw s1 s64 iA iK q hq,Bh,ez,Bh,D4,G1 q,Int.toNat_natCast]
  have:=Jz (o*Gf L w s) q (rowV A K c L w s) _ hq (rfl:sat (rhe (sg (rowF A K c L w s (q/Gf L w s) (q%Gf L w s)) (c*w)))=rowV A K c L w s q)
  simp only
  rw [this]
 ·intro go
  unfold f142_l14
  simp only [Gr]
  rw [dF,cond_false,Ji]
theorem row_loopR (n0:0<prd [(o:Int),(Gf L w s:Int)]) :
  Fq (fun go (x:Int×List Int)=>f102_l33 ([(c:Int),(L:Int)],A) ([(o:Int),(c:Int),(w:Int)],K) s go x.1 x.2) Fv ((0:Int),List.replicate (o*Gf L w s) 0)=some (Gg (o*Gf L w s) (rowV A K c L w s)):=by
 have hp:=(prod2 n0).2.2
 have hr:=F5 [(o:Int),(Gf L w s:Int)]
 have hN:((o*Gf L w s:Nat):Int)≤4096:=by rw [Int.natCast_mul];omega
 have m1:1≤Gf L w s:=Nat.le_add_left 1 _
 have hoN:o≤o*Gf L w s:=Nat.le_mul_of_pos_right _ m1
 have hmN:Gf L w s≤o*Gf L w s:=Nat.le_mul_of_pos_left _ o1
 have hL:L≤4096:=Nat.le_trans (Nat.le_mul_of_pos_left _ c1) bA
 rw [Jh _ (rowV A K c L w s)]
 have h:=F2 (B:=fun go (x:Int×List Int)=>f102_l33 ([(c:Int),(L:Int)],A) ([(o:Int),(c:Int),(w:Int)],K) s go x.1 x.2) (fun i=>((i:Int),upto (o*Gf L w s) (i*Gf L w s) (rowV A K c L w s))) o (Gg (o*Gf L w s) (rowV A K c L w s)) ?_ ?_ (by omega)
 ·rw [Nat.zero_mul] at h;exact h
 ·intro i hi go
  unfold f102_l33
  simp only
  have inner:=F2 (B:=fun go (x:Int×List Int)=>f102_l42 ([(c:Int),(L:Int)],A) ([(o:Int),(c:Int),(w:Int)],K) s (i:Int) go x.1 x.2) (fun j=>((j:Int),upto (o*Gf L w s) (i*Gf L w s+j) (rowV A K c L w s))) (Gf L w s) (upto (o*Gf L w s) ((i+1)*Gf L w s) (rowV A K c L w s)) ?_ ?_ (by omega)
  ·rw [Nat.add_zero] at inner
   have inner':Fq (fun go (x:Int×List Int)=>f102_l42 ([(c:Int),(L:Int)],A) ([(o:Int),(c:Int),(w:Int)],K) s (i:Int) go x.1 x.2) Fv ((0:Int),upto (o*Gf L w s) (i*Gf L w s) (rowV A K c L w s))=_:=inner
   rw [show rd (0:Int) [(o:Int),(c:Int),(w:Int)] 0=(o:Int) from rfl,dT,cond_true,inner',Bh,G1 i]
  ·intro j hj go
   have hq:=in_mat (c:=o) hi hj
   obtain ⟨d1,d2⟩:=div_mat (x:=i) hj
   have hcw:=row_cw A K c L o w s c1 w1 hA hK bA bK hw s1 s64 iA iK o1
   obtain ⟨z,ez,hz⟩:=row_sumR A K c L o w s c1 w1 hA hK bA bK hw s1 s64 iA iK i j hi hj
   obtain ⟨y,ey,hy⟩:=ref_end hz (sg_sm _ _ hcw (fun t ht=>row_p A K c L o w s c1 w1 hA hK bA bK hw s1 s64 iA iK hi hj ht))
   unfold f102_l42
   simp only [Gr]
   rw [show rd (0:Int) [(o:Int),(c:Int),(w:Int)] 2=(w:Int) from rfl,show rd (0:Int) [(c:Int),(L:Int)] 1=(L:Int) from rfl,win_eq L w s hw (by omega),dT,cond_true,ez,Bh,ey,Bh,hy,Bh,
    ixM i (Gf L w s) j (by omega),D4,Int.toNat_natCast,G1 j]
   have:=Jz (o*Gf L w s) (i*Gf L w s+j) (rowV A K c L w s) (sat (rhe (sg (rowF A K c L w s i j) (c*w)))) hq (by unfold rowV;rw [d1,d2])
   rw [this]
   rfl
  ·intro go
   unfold f102_l42
   simp only
   rw [show rd (0:Int) [(o:Int),(c:Int),(w:Int)] 2=(w:Int) from rfl,show rd (0:Int) [(c:Int),(L:Int)] 1=(L:Int) from rfl,win_eq L w s hw (by omega),dF,cond_false,Nat.add_mul,Nat.one_mul]
 ·intro go
  unfold f102_l33
  simp only
  rw [show rd (0:Int) [(o:Int),(c:Int),(w:Int)] 0=(o:Int) from rfl,dF,cond_false,Ji]
end
abbrev Jx (a k:Tn):Prop:=a.1.length=2∧k.1.length=3∧rd (0:Int) k.1 1=rd (0:Int) a.1 0∧rd (0:Int) k.1 2≤rd (0:Int) a.1 1
abbrev Jp (a k:Tn) (step:Int):Prop:=Fz a=true∧Fz k=true∧1≤step∧step≤64
def rowS (a k:Tn) (step:Int):Int×Tn:=
 if Jp a k step then
  if Jx a k then
   if 0<prd [rd (0:Int) k.1 0,(Gf (rd (0:Int) a.1 1).toNat (rd (0:Int) k.1 2).toNat step.toNat:Int)] then
    (0,[rd (0:Int) k.1 0,(Gf (rd (0:Int) a.1 1).toNat (rd (0:Int) k.1 2).toNat step.toNat:Int)],
     Gg ((rd (0:Int) k.1 0).toNat*Gf (rd (0:Int) a.1 1).toNat (rd (0:Int) k.1 2).toNat step.toNat) (rowV a.2 k.2 (rd (0:Int) a.1 0).toNat (rd (0:Int) a.1 1).toNat (rd (0:Int) k.1 2).toNat step.toNat))
   else (2,[],[])
  else (4,[],[])
 else (1,[],[])
theorem two_of {d:List Int} (h:d.length=2):d=[rd (0:Int) d 0,rd (0:Int) d 1]:=by
 match d,h with
 | [x,y],_=>rfl
theorem three_of {d:List Int} (h:d.length=3):d=[rd (0:Int) d 0,rd (0:Int) d 1,rd (0:Int) d 2]:=by
 match d,h with
 | [x,y,z],_=>rfl
theorem mat_nat {a:Tn} (ha:Fz a=true) (h:a.1.length=2):∃ c L:Nat,a=([(c:Int),(L:Int)],a.2)∧1≤c∧1≤L∧a.2.length=c*L∧c*L≤4096:=by
 obtain ⟨hp,hl,_,l2⟩:=Ga ha
 have e:=two_of h
 rw [e] at hp hl
 obtain ⟨h1,h2,h3⟩:=prod2 hp
 obtain ⟨c,hc⟩:=Int.eq_ofNat_of_zero_le (show 0≤rd (0:Int) a.1 0 by omega)
 obtain ⟨L,hL⟩:=Int.eq_ofNat_of_zero_le (show 0≤rd (0:Int) a.1 1 by omega)
 rw [h3,hc,hL,← Int.natCast_mul] at hl
 exact ⟨c,L,Prod.ext (by rw [← hc,← hL];exact e) rfl,by omega,by omega,by omega,by omega⟩
theorem ker_nat {a:Tn} (ha:Fz a=true) (h:a.1.length=3):∃ o c w:Nat,a=([(o:Int),(c:Int),(w:Int)],a.2)∧1≤o∧1≤c∧1≤w∧a.2.length=o*(c*w)∧o*(c*w)≤4096:=by
 obtain ⟨hp,hl,_,l2⟩:=Ga ha
 have e:=three_of h
 rw [e] at hp hl
 obtain ⟨h1,h2,h3,h4⟩:=prod3 hp
 obtain ⟨o,ho⟩:=Int.eq_ofNat_of_zero_le (show 0≤rd (0:Int) a.1 0 by omega)
 obtain ⟨c,hc⟩:=Int.eq_ofNat_of_zero_le (show 0≤rd (0:Int) a.1 1 by omega)
 obtain ⟨w,hw⟩:=Int.eq_ofNat_of_zero_le (show 0≤rd (0:Int) a.1 2 by omega)
 rw [h4,ho,hc,hw,← Int.natCast_mul,← Int.natCast_mul] at hl
 exact ⟨o,c,w,Prod.ext (by rw [← ho,← hc,← hw];exact e) rfl,by omega,by omega,by omega,by omega,by omega⟩
theorem row_j5 (a k:Tn):f142_j5 a k=some (!(decide (Jx a k))):=by
 unfold f142_j5
 by_cases h1:a.1.length=2
 ·rw [nF,cond_false]
  by_cases h2:k.1.length=3
  ·rw [nF,cond_false,D4,D4]
   by_cases h3:rd (0:Int) k.1 1=rd (0:Int) a.1 0
   ·rw [nF h3,cond_false,D4,D4]
    by_cases h4:rd (0:Int) k.1 2≤rd (0:Int) a.1 1
    ·rw [dF,dT (show Jx a k from ⟨h1,h2,h3,h4⟩)];rfl
    ·rw [dT,dF (show ¬Jx a k from fun h=>h4 h.2.2.2)];rfl
   ·rw [nT h3,dF (show ¬Jx a k from fun h=>h3 h.2.2.1)];rfl
  ·rw [nT,dF (show ¬Jx a k from fun h=>h2 h.2.1)];rfl
 ·rw [nT,dF (show ¬Jx a k from fun h=>h1 h.1)];rfl
theorem row_j6 (a k:Tn):f102_j6 a k=some (!(decide (Jx a k))):=by
 unfold f102_j6
 by_cases h1:a.1.length=2
 ·rw [nF,cond_false]
  by_cases h2:k.1.length=3
  ·rw [nF,cond_false,D4,D4]
   by_cases h3:rd (0:Int) a.1 0=rd (0:Int) k.1 1
   ·rw [nF h3,cond_false,D4,D4]
    by_cases h4:rd (0:Int) k.1 2≤rd (0:Int) a.1 1
    ·rw [dF,dT (show Jx a k from ⟨h1,h2,h3.symm,h4⟩)];rfl
    ·rw [dT,dF (show ¬Jx a k from fun h=>h4 h.2.2.2)];rfl
   ·rw [nT h3,dF (show ¬Jx a k from fun h=>h3 h.2.2.1.symm)];rfl
  ·rw [nT,dF (show ¬Jx a k from fun h=>h2 h.2.1)];rfl
 ·rw [nT,dF (show ¬Jx a k from fun h=>h1 h.1)];rfl
theorem row_j4 (a k:Tn) (step:Int):f142_j4 a k step=some (!(decide (Jp a k step))):=by
 unfold f142_j4 f173
 have e1:f91 (a.1,a.2)=some (Fz a):=Gv a
 have e2:f91 (k.1,k.2)=some (Fz k):=Gv k
 generalize hd:decide (Jp a k step)=d
 rw [e1,Bh]
 by_cases ha:Fz a=true
 ·rw [ha,Bool.not_true,cond_false,e2,Bh]
  by_cases hk:Fz k=true
  ·rw [hk,Bool.not_true,cond_false]
   by_cases h1:step≥1
   ·rw [dT h1,cond_true]
    by_cases h2:step≤64
    ·rw [dT h2];rw [dT (show Jp a k step from ⟨ha,hk,h1,h2⟩)] at hd;rw [← hd];rfl
    ·rw [dF h2];rw [dF (show ¬Jp a k step from fun h=>h2 h.2.2.2)] at hd;rw [← hd];rfl
   ·rw [dF h1];rw [dF (show ¬Jp a k step from fun h=>h1 h.2.2.1)] at hd;rw [← hd];rfl
  ·rw [show Fz k=false by simpa using hk];rw [dF (show ¬Jp a k step from fun h=>hk h.2.1)] at hd;rw [← hd];rfl
 ·rw [show Fz a=false by simpa using ha];rw [dF (show ¬Jp a k step from fun h=>ha h.1)] at hd;rw [← hd];rfl
theorem row_j3 (a k:Tn) (step:Int):f102_j3 a k step=some (!(decide (Jp a k step))):=by
 unfold f102_j3
 have e1:f51 (a.1,a.2)=some (Fz a):=isR a
 have e2:f51 (k.1,k.2)=some (Fz k):=isR k
 generalize hd:decide (Jp a k step)=d
 rw [e1,Bh]
 by_cases ha:Fz a=true
 ·rw [ha,Bool.not_true,cond_false,e2,Bh]
  by_cases hk:Fz k=true
  ·rw [hk,Bool.not_true,cond_false]
   by_cases h1:step≥1
   ·rw [dF (show ¬step<1 by omega),cond_false]
    by_cases h2:step≤64
    ·rw [dF (show ¬step>64 by omega)];rw [dT (show Jp a k step from ⟨ha,hk,h1,h2⟩)] at hd;rw [← hd];rfl
    ·rw [dT (show step>64 by omega)];rw [dF (show ¬Jp a k step from fun h=>h2 h.2.2.2)] at hd;rw [← hd];rfl
   ·rw [dT (show step<1 by omega)];rw [dF (show ¬Jp a k step from fun h=>h1 h.2.2.1)] at hd;rw [← hd];rfl
  ·rw [show Fz k=false by simpa using hk];rw [dF (show ¬Jp a k step from fun h=>hk h.2.1)] at hd;rw [← hd];rfl
 ·rw [show Fz a=false by simpa using ha];rw [dF (show ¬Jp a k step from fun h=>ha h.1)] at hd;rw [← hd];rfl
theorem rowP (a k:Tn) (step:Int) (ia:inI a.2) (ik:inI k.2):f142 a k step=some (rowS a k step):=by
 unfold f142 f142_j3 rowS
 rw [row_j4,Bh]
 by_cases h:Jp a k step
 ·rw [dT h,if_pos h,Bool.not_true,cond_false,row_j5,Bh]
  by_cases f:Jx a k
  ·rw [dT f,if_pos f,Bool.not_true,cond_false,Bh,Fu]
   obtain ⟨ga,gk,t1,t64⟩:=h
   obtain ⟨f1,f2,f3,f4⟩:=f
   obtain ⟨c,L,ea,c1,L1,la,ba⟩:=mat_nat ga f1
   obtain ⟨o,c',w,ek,o1,_,w1,lk,bk⟩:=ker_nat gk f2
   obtain ⟨s,rfl⟩:=Int.eq_ofNat_of_zero_le (show 0≤step by omega)
   generalize a.2=A at *
   generalize k.2=K at *
   subst ea ek
   have fc:(c':Int)=(c:Int):=f3
   have fc':c'=c:=by omega
   subst fc'
   have fw:(w:Int)≤(L:Int):=f4
   have s1:1≤s:=by omega
   have s64:s≤64:=by omega
   have hL:L≤4096:=Nat.le_trans (Nat.le_mul_of_pos_left _ c1) ba
   rw [D4 (by simp),D4 (by simp),D4 (by simp)]
   have eW:f174 (rd (0:Int) [(c':Int),(L:Int)] 1) (rd (0:Int) [(o:Int),(c':Int),(w:Int)] 2) (s:Int)=some (Gf L w s:Int):=winP L w s (by omega) (by omega) s1
   rw [eW,Bh,D4 (by simp),of_ok,Bh]
   show _=some (if 0<prd [(o:Int),(Gf L w s:Int)] then (0,[(o:Int),(Gf L w s:Int)],Gg (o*Gf L w s) (rowV A K c' L w s)) else (2,[],[]))
   rw [show rd (0:Int) [(o:Int),(c':Int),(w:Int)] 0=(o:Int) from rfl]
   by_cases n0:0<prd [(o:Int),(Gf L w s:Int)]
   ·have hp:=(prod2 n0).2.2
    have eN:(prd [(o:Int),(Gf L w s:Int)]).toNat=o*Gf L w s:=by rw [hp,← Int.natCast_mul,Int.toNat_natCast]
    rw [if_pos n0,if_pos n0,eN,nF rfl,cond_false]
    simp only
    rw [row_loopP A K c' L o w s c1 w1 la lk ba bk (by omega) s1 s64 ia ik o1 n0,Bh]
   ·rw [if_neg n0,if_neg n0,nT (by decide:¬(2:Int)=0)];rfl
  ·rw [dF f,if_neg f];rfl
 ·rw [dF h,if_neg h];rfl
theorem rowR (a k:Tn) (step:Int) (ia:inI a.2) (ik:inI k.2):f102 a k step=some (rowS a k step):=by
 unfold f102 f102_j2 rowS
 rw [row_j3,Bh]
 by_cases h:Jp a k step
 ·rw [dT h,if_pos h,Bool.not_true,cond_false,Bh,Fu]
  unfold f102_j5
  rw [row_j6,Bh]
  by_cases f:Jx a k
  ·rw [dT f,if_pos f,Bool.not_true,cond_false,Bh,Fu]
   obtain ⟨ga,gk,t1,t64⟩:=h
   obtain ⟨f1,f2,f3,f4⟩:=f
   obtain ⟨c,L,ea,c1,L1,la,ba⟩:=mat_nat ga f1
   obtain ⟨o,c',w,ek,o1,_,w1,lk,bk⟩:=ker_nat gk f2
   obtain ⟨s,rfl⟩:=Int.eq_ofNat_of_zero_le (show 0≤step by omega)
   generalize a.2=A at *
   generalize k.2=K at *
   subst ea ek
   have fc:(c':Int)=(c:Int):=f3
   have fc':c'=c:=by omega
   subst fc'
   have fw:(w:Int)≤(L:Int):=f4
   have s1:1≤s:=by omega
   have s64:s≤64:=by omega
   have hL:L≤4096:=Nat.le_trans (Nat.le_mul_of_pos_left _ c1) ba
   rw [D4 (by simp),D4 (by simp),D4 (by simp),D4 (by simp),D4]
   have eW:IntKind.i64.wrap (IntKind.i64.wrap (Int.tdiv (IntKind.i64.wrap (rd (0:Int) [(c':Int),(L:Int)] 1-rd (0:Int) [(o:Int),(c':Int),(w:Int)] 2)) (s:Int))+1)=(Gf L w s:Int):=win_eq L w s (by omega) (by omega)
   rw [eW,show rd (0:Int) [(o:Int),(c':Int),(w:Int)] 0=(o:Int) from rfl,goodR,Bh]
   show _=some (if 0<prd [(o:Int),(Gf L w s:Int)] then (0,[(o:Int),(Gf L w s:Int)],Gg (o*Gf L w s) (rowV A K c' L w s)) else (2,[],[]))
   by_cases n0:0<prd [(o:Int),(Gf L w s:Int)]
   ·have hp:=(prod2 n0).2.2
    have eN:(prd [(o:Int),(Gf L w s:Int)]).toNat=o*Gf L w s:=by rw [hp,← Int.natCast_mul,Int.toNat_natCast]
    rw [dT (show prd [(o:Int),(Gf L w s:Int)]>0 from n0),if_pos n0,Bool.not_true,cond_false,newR _ _ n0,Bh,eN]
    simp only
    rw [row_loopR A K c' L o w s c1 w1 la lk ba bk (by omega) s1 s64 ia ik o1 n0,Bh]
   ·rw [dF (show ¬prd [(o:Int),(Gf L w s:Int)]>0 from n0),if_neg n0];rfl
  ·rw [dF f,if_neg f];rfl
 ·rw [dF h,if_neg h];rfl
end Go.Proofs.Cv
namespace Go.Proofs.PlM
open Go.AM Go.Proofs.PlB Go.Proofs.PlW Go.Proofs.PlT
structure Mat (n m:Int):Prop where
 n1:1≤n
 n2:n≤4096
 m1:1≤m
 m2:m≤4096
 p:n*m≤4096
theorem Mat.prd {n m:Int} (h:Mat n m):prd [n,m]=n*m:=by
 obtain ⟨h1,h2,h3,h4,h5⟩:=h
 rw [prd_two,iNo]
theorem Mat.pos {n m:Int} (h:Mat n m):0<n*m:=Int.mul_pos (by have:=h.n1;omega) (by have:=h.m1;omega)
theorem Mat.of {n m:Int} (h:0<PlB.prd [n,m]):Mat n m:=by
 rw [prd_two] at h
 split at h
 ·omega
 ·rename_i h';exact ⟨by omega,by omega,by omega,by omega,by omega⟩
end Go.Proofs.PlM
namespace Go.Proofs.PlN
open Go.AM Go.Proofs.PlB Go.Proofs.PlW Go.Proofs.PlT Go.Proofs.PlM
end Go.Proofs.PlN
namespace Go.Proofs.Matm
open Go.AM Go.Proofs.PlB Go.Proofs.PlW Go.Proofs.PlT Go.Proofs.PlM Go.Proofs.PlN
end Go.Proofs.Matm
namespace Go.Proofs.Cv
open Go.AM Go.Proofs.PlB Go.Proofs.PlW Go.Proofs.PlT Go.Proofs.PlS Go.Proofs.Sh Go.Proofs.Num Go.Proofs.Div Go.Proofs.Op
section
variable (A B:List Int) (n k c:Nat) (n1:1≤n) (k1:1≤k) (c1:1≤c) (hA:A.length=n*k) (hB:B.length=k*c) (bA:n*k≤4096) (bB:k*c≤4096) (iA:inI A) (iB:inI B)
include n1 k1 c1 hA hB bA bB iA iB
end
end Go.Proofs.Cv
namespace Go.Proofs.Op
open Go.AM Go.Proofs.PlB Go.Proofs.PlW Go.Proofs.PlT Go.Proofs.PlS Go.Proofs.Sh Go.Proofs.Num Go.Proofs.Div Go.Proofs.PlR
theorem fits_self {d:List Int} (h:0<prd d):Fits d d:=⟨h,h,Nat.le_refl _,fun k hk h1=>rfl⟩
theorem acc_self {d:List Int} (h:0<prd d) (v:Int) (v0:0≤v) (v1:v≤4096):∀ k,k≤d.length→accS d d v k+J0 d k*rst d v k=v
 | 0,_=>by simp only [accS,rst,Kj];omega
 | k+1,hk=>by
  have ih:=acc_self h v v0 v1 k (by omega)
  obtain ⟨s0,s1⟩:=Gp h k
  rw [J5 d k hk]
  simp only [accS,rst]
  have e:=Int.mul_ediv_add_emod (rst d v k) (Fw d k)
  have e2:(if Fw d k>1 then rst d v k%Fw d k*J0 d k else 0)=rst d v k%Fw d k*J0 d k:=by
   split
   ·rfl
   ·have:Fw d k=1:=by omega
    rw [this,Int.emod_one,Int.zero_mul]
  rw [e2]
  have e3:Fw d k*J0 d k*(rst d v k/Fw d k)=J0 d k*(Fw d k*(rst d v k/Fw d k)):=by
   rw [Int.mul_comm (Fw d k),Int.mul_assoc]
  have e4:J0 d k*rst d v k=J0 d k*(Fw d k*(rst d v k/Fw d k))+rst d v k%Fw d k*J0 d k:=by
   conv=>lhs;rw [← e]
   rw [Int.mul_add,Int.mul_comm (J0 d k) (rst d v k%Fw d k)]
  omega
theorem rst_all {d:List Int} (h:0<prd d) (v:Int) (v0:0≤v) (v1:v<prd d):rst d v d.length=0:=by
 have hr:=F5 d
 have e:=acc_self h v v0 (by omega) d.length (Nat.le_refl _)
 obtain ⟨a,b⟩:=Ka (fits_self h) v v0 (by omega) d.length (Nat.le_refl _)
 obtain ⟨r0,r1⟩:=rst_range h v v0 (by omega) d.length
 rw [strd_all,← (Gs h).1] at e
 by_cases hz:rst d v d.length=0
 ·exact hz
 ·have:prd d*1≤prd d*rst d v d.length:=Int.mul_le_mul_of_nonneg_left (by omega) (by omega)
  omega
theorem spX_self {d:List Int} (h:0<prd d) (i:Nat) (hi:(i:Int)<prd d):spX d d i=i:=by
 have hr:=F5 d
 have e:=acc_self h (i:Int) (by omega) (by omega) d.length (Nat.le_refl _)
 rw [rst_all h _ (by omega) hi,Int.mul_zero,Int.add_zero] at e
 exact e
theorem both_self (f:Int→Int→Int) (a b:Tn) (ga:Fz a=true) (gb:Fz b=true) (h:a.1=b.1):J9 f a b=(0,a.1,Gg a.2.length (fun i=>f (rd (0:Int) a.2 i) (rd (0:Int) b.2 i))):=by
 obtain ⟨pa,la,_,_⟩:=Ga ga
 unfold J9
 rw [if_pos ⟨ga,gb⟩,← h,jS_fits.2 (fits_self pa),if_pos rfl]
 congr 2
 simp only
 rw [show (prd a.1).toNat=a.2.length by omega]
 exact Gh _ _ _ (fun i hi=>by rw [spX_self pa i (by omega)])
theorem tgood_of {t:Tn} (h:0<prd t.1) (hl:(t.2.length:Int)=prd t.1):Fz t=true:=by
 unfold Fz;rw [dT (show prd t.1>0 from h),bT hl];rfl
def gn (l:List Nd) (i:Nat):Nd:=rd (Ty.z (.p (.int .i64) (.p (.int .i64) (.p (.int .i64) (.p (.int .i64) (.p (.sl (.int .i64)) (.sl (.int .i64)))))))) l (i:Int)
def GoodT (t:Tn):Prop:=Fz t=true∧inI t.2
def vl (l:List Nd) (n:Int):Tn:=if 0≤n∧n<l.length then nd l n.toNat else ([],[])
theorem hasP (l:List Nd) (n:Int):f48 l n=some (decide (0≤n∧n<l.length),l):=by
 unfold f48
 by_cases h:n≥0
 ·rw [dT h,cond_true]
  congr 2
  rw [decide_eq_decide];omega
 ·rw [dF h,cond_false,dF (show ¬(0≤n∧n<l.length) from fun hh=>h hh.1)]
theorem atP (l:List Nd) (i:Nat) (h:i<l.length) (hg:GoodT (nd l i)):f23 l (i:Int)=some ((gn l i).1,(gn l i).2.1,(gn l i).2.2.1,(gn l i).2.2.2.1,true,(nd l i).1,(nd l i).2,l):=by
 obtain ⟨_,_,l1,l2⟩:=Ga hg.1
 unfold f23
 rw [hasP,Bh,dT]
 simp only [Bool.not_true,cond_false]
 rw [D4]
 show Ey (f49 (nd l i)) _=_
 rw [copy_t _ (by omega) (by omega),Bh]
 rfl
abbrev Z2:Tn:=Ty.z (.p (.sl (.int .i64)) (.sl (.int .i64)))
structure Keeps (l:List Nd) (root:Nat) (st:List Tn×List Bool):Prop where
 l1:st.1.length=root+1
 l2:st.2.length=root+1
 ok:∀ i,i≤root→GoodT (rd Z2 st.1 (i:Int))∧(rd Z2 st.1 (i:Int)).1=(nd l i).1
theorem rd_app {α:Type} (z:α) (l:List α) (v:α) (i:Nat) (h:i<l.length):rd z (l++[v]) (i:Int)=rd z l (i:Int):=by
 rw [Gj _ _ _ (by rw [List.length_append];simp;omega),Gj _ _ _ h,List.getElem_append_left h]
theorem rd_last {α:Type} (z:α) (l:List α) (v:α):rd z (l++[v]) (l.length:Int)=v:=by
 rw [Gj _ _ _ (by rw [List.length_append];simp),List.getElem_append_right (Nat.le_refl _)]
 simp
end Go.Proofs.Op
namespace Go.Proofs.Cv
open Go.AM Go.Proofs.PlB Go.Proofs.PlW Go.Proofs.PlT Go.Proofs.PlS Go.Proofs.Sh Go.Proofs.Num Go.Proofs.Div Go.Proofs.Op
def hor (d p:List Int):Nat→Int
 | 0=>0
 | k+1=>hor d p k*rd (0:Int) d (k:Int)+rd (0:Int) p (k:Int)
theorem prodL_app:∀ a b:List Int,Fp (a++b)=Fp a*Fp b
 | [],b=>by simp [Fp]
 | x::a,b=>by simp only [List.cons_append,Fp];rw [prodL_app a b,Int.mul_assoc]
theorem J3 {d:List Int} (k:Nat) (h:k<d.length):Fp (d.take (k+1))=Fp (d.take k)*rd (0:Int) d (k:Int):=by
 rw [List.take_succ_eq_append_getElem h,prodL_app,Gj _ _ _ h]
 simp [Fp]
theorem prodL_le {d:List Int} (hd:∀ x ∈ d,1≤x) (k:Nat):1≤Fp (d.take k)∧Fp (d.take k)≤Fp d:=by
 have h1:=Gu (d.take k) (fun x hx=>hd x (List.mem_of_mem_take hx))
 have h2:=Gu (d.drop k) (fun x hx=>hd x (List.mem_of_mem_drop hx))
 refine ⟨h1,?_⟩
 have e:Fp d=Fp (d.take k)*Fp (d.drop k):=by rw [← prodL_app,List.take_append_drop]
 rw [e]
 have:=Int.mul_le_mul_of_nonneg_left h2 (show 0≤Fp (d.take k) by omega)
 omega
structure Within (d p:List Int):Prop where
 len:p.length=d.length
 lo:∀ k,k<d.length→0≤rd (0:Int) p (k:Int)
 hi:∀ k,k<d.length→rd (0:Int) p (k:Int)<rd (0:Int) d (k:Int)
theorem hor_in {d p:List Int} (W:Within d p):∀ k,k≤d.length→0≤hor d p k∧hor d p k<Fp (d.take k)
 | 0,_=>by simp [hor,Fp]
 | k+1,h=>by
  obtain ⟨h1,h2⟩:=hor_in W k (by omega)
  have l:=W.lo k (by omega)
  have u:=W.hi k (by omega)
  rw [J3 k (by omega)]
  simp only [hor]
  have m1:0≤hor d p k*rd (0:Int) d (k:Int):=Int.mul_nonneg h1 (by omega)
  have m2:(hor d p k+1)*rd (0:Int) d (k:Int)≤Fp (d.take k)*rd (0:Int) d (k:Int):=Int.mul_le_mul_of_nonneg_right (by omega) (by omega)
  rw [Int.add_mul,Int.one_mul] at m2
  constructor <;> omega
theorem hor_small {d p:List Int} (hd:0<prd d) (W:Within d p) (k:Nat) (hk:k≤d.length):0≤hor d p k∧hor d p k<prd d∧hor d p k<4096:=by
 obtain ⟨e,h1,h2⟩:=Gs hd
 have hr:=F5 d
 obtain ⟨a,b⟩:=hor_in W k hk
 obtain ⟨_,c⟩:=prodL_le (fun x hx=>(h1 x hx).1) k
 omega
theorem hor_step {d p:List Int} (hd:0<prd d) (W:Within d p) (k:Nat) (hk:k<d.length) :
  IntKind.i64.wrap (IntKind.i64.wrap (hor d p k*rd (0:Int) d (k:Int))+rd (0:Int) p (k:Int))=hor d p (k+1):=by
 obtain ⟨a,b,c⟩:=hor_small hd W k (by omega)
 obtain ⟨a2,b2,c2⟩:=hor_small hd W (k+1) hk
 have l:=W.lo k hk
 have u:=W.hi k hk
 simp only [hor] at a2 b2 c2 ⊢
 have m1:0≤hor d p k*rd (0:Int) d (k:Int):=Int.mul_nonneg a (by omega)
 rw [Fl (n:=hor d p k*rd (0:Int) d (k:Int)) (by omega) (by omega),Fl]
theorem atR {d p:List Int} (hd:0<prd d) (W:Within d p):f123 d p=some (hor d p d.length,true):=by
 have hl:=G3 hd
 have hp:=W.len
 unfold f123 f123_j1
 rw [goodR,Bh,dT (show prd d>0 from hd),Bool.not_true,cond_false,nF,cond_false,Bh,Fu]
 have h:=F2 (B:=fun go (x:Int×Int)=>f123_l4 d p go x.1 x.2) (fun k=>(hor d p k,(k:Int))) d.length (Sum.inr (hor d p d.length)) ?_ ?_ (by omega)
 ·have h':Fq (fun go (x:Int×Int)=>f123_l4 d p go x.1 x.2) Fv ((0:Int),(0:Int))=_:=h
  rw [h',Bh,F4]
 ·intro k hk go
  have l:=W.lo k hk
  have u:=W.hi k hk
  have hj:f123_j5 d p (k:Int)=some (Sum.inl ()):=by
   unfold f123_j5
   rw [D4,dF,cond_false,D4,D4,dF];rfl
  unfold f123_l4
  simp only
  rw [dT,cond_true,hj,Bh,Fu,D4,D4,hor_step hd W k hk,G1 k]
 ·intro go
  unfold f123_l4
  simp only
  rw [dF,cond_false]
theorem rst_step {d:List Int} (h:0<prd d) (v:Int) (k:Nat) (hk:k<d.length):rst d v (k+1)*Fw d k+rst d v k%Fw d k=rst d v k:=by
 have:=Gp h k
 show rst d v k/Fw d k*Fw d k+rst d v k%Fw d k=rst d v k
 rw [Int.mul_comm];exact Int.mul_ediv_add_emod _ _
theorem rd_side (d:List Int) (j:Nat) (hj:j<d.length):rd (0:Int) d (j:Int)=Fw d (d.length-1-j):=by
 have:=Kf d (d.length-1-j) (by omega)
 rw [show d.length-1-(d.length-1-j)=j by omega] at this
 exact this
theorem rd_plc (d:List Int) (v:Int) (j:Nat) (hj:j<d.length):rd (0:Int) (plc d v) (j:Int)=rst d v (d.length-1-j)%Fw d (d.length-1-j):=by
 have:=plc_rd d v (d.length-1-j) (by omega)
 rw [show d.length-1-(d.length-1-j)=j by omega] at this
 exact this
theorem plc_within {d:List Int} (h:0<prd d) (v:Int):Within d (plc d v):=
 ⟨plc_len d v,fun k hk=>by rw [rd_plc d v k hk];have:=Gp h (d.length-1-k);exact Int.emod_nonneg _ (by omega),
  fun k hk=>by rw [rd_plc d v k hk,rd_side d k hk];have:=Gp h (d.length-1-k);exact Int.emod_lt_of_pos _ (by omega)⟩
theorem hor_plc {d:List Int} (h:0<prd d) (v:Int) (v0:0≤v) (v1:v<prd d):∀ j,j≤d.length→hor d (plc d v) j=rst d v (d.length-j)
 | 0,_=>by rw [Nat.sub_zero,rst_all h v v0 v1];rfl
 | j+1,hj=>by
  simp only [hor]
  rw [hor_plc h v v0 v1 j (by omega),rd_plc d v j (by omega),rd_side d j (by omega),show d.length-j=(d.length-1-j)+1 by omega,rst_step h v _ (by omega),show d.length-1-j=d.length-(j+1) by omega]
theorem sg_add (F:Nat→Int) (a:Nat):∀ b,sg F (a+b)=sg F a+sg (fun y=>F (a+y)) b
 | 0=>by simp [sg]
 | b+1=>by
  rw [← Nat.add_assoc]
  simp only [sg]
  rw [sg_add F a b];omega
theorem sg_split (F:Nat→Int) (b:Nat):∀ a,sg F (a*b)=sg (fun x=>sg (fun y=>F (x*b+y)) b) a
 | 0=>by simp [sg]
 | a+1=>by
  rw [Nat.add_mul,Nat.one_mul,sg_add,sg_split F b a]
  rfl
theorem sg_zero (F:Nat→Int):∀ n,(∀ k,k<n→F k=0)→sg F n=0
 | 0,_=>rfl
 | n+1,h=>by simp only [sg];rw [sg_zero F n (fun k hk=>h k (by omega)),h n (by omega)];rfl
theorem sg_one (F:Nat→Int) (a:Nat):∀ n,a<n→(∀ k,k<n→k≠a→F k=0)→sg F n=F a
 | 0,h,_=>absurd h (by omega)
 | n+1,h,hz=>by
  simp only [sg]
  by_cases e:n=a
  ·subst e
   rw [sg_zero F n (fun k hk=>hz k (by omega) (by omega)),Int.zero_add]
  ·rw [sg_one F a n (by omega) (fun k hk=>hz k (by omega)),hz n (by omega) e,Int.add_zero]
def goes (D st i:Nat):Nat:=i/(st*D)*st+i%st
def ixs (D st v k:Nat):Nat:=(v/st*D+k)*st+v%st
theorem goes_at (D st x k l:Nat) (hk:k<D) (hl:l<st):goes D st (x*(D*st)+(k*st+l))=x*st+l:=by
 have h0:k*st+l<D*st:=in_mat hk hl
 unfold goes
 rw [Nat.mul_comm st D,(div_mat (x:=x) h0).1]
 have e:x*(D*st)+(k*st+l)=(x*D+k)*st+l:=by rw [Nat.add_mul,Nat.mul_assoc];omega
 rw [e,(div_mat (x:=x*D+k) hl).2]
theorem sums_eq (V:Nat→Int) (H D st v:Nat) (hst:0<st) (hv:v<H*st) :
  sg (fun i=>if goes D st i=v then V i else 0) (H*(D*st))=sg (fun k=>V (ixs D st v k)) D:=by
 have hR:v/st<H:=Nat.div_lt_of_lt_mul (by rw [Nat.mul_comm];exact hv)
 have hl0:v%st<st:=Nat.mod_lt _ hst
 have hv2:v/st*st+v%st=v:=by rw [Nat.mul_comm];exact Nat.div_add_mod v st
 rw [sg_split]
 rw [sg_one _ (v/st) H hR (fun x hx hne=>sg_zero _ _ (fun y hy=>by
  have h0:0<D*st:=by omega
  have hk:y/st<D:=Nat.div_lt_of_lt_mul (by rw [Nat.mul_comm];exact hy)
  have hl:y%st<st:=Nat.mod_lt _ hst
  have ey:y/st*st+y%st=y:=by rw [Nat.mul_comm];exact Nat.div_add_mod y st
  have g:=goes_at D st x (y/st) (y%st) hk hl
  rw [ey] at g
  rw [g,if_neg]
  intro e
  have:=(div_mat (x:=x) hl).1
  rw [e] at this
  exact hne this.symm))]
 rw [sg_split]
 refine sg_congr D (fun k hk=>?_)
 rw [sg_one _ (v%st) st hl0 (fun l hl hne=>by
  rw [goes_at D st _ k l hk hl,if_neg]
  intro e
  exact hne (by omega)),goes_at D st _ k _ hk hl0,if_pos hv2]
 unfold ixs
 congr 1
 rw [Nat.add_mul,Nat.mul_assoc];omega
theorem pgo_of:∀ (d:List Int) (n:Int),1≤n→(∀ x ∈ d,1≤x∧x≤4096)→n*Fp d≤4096→pgo n d=n*Fp d
 | [],n,_,_,_=>by simp [pgo,Fp]
 | x::d,n,hn,h,hp=>by
  have hx:=h x (by simp)
  have hd:∀ y ∈ d,1≤y∧y≤4096:=fun y hy=>h y (by simp [hy])
  have p1:=Gu d (fun y hy=>(hd y hy).1)
  simp only [Fp] at hp ⊢
  have e:n*(x*Fp d)=n*x*Fp d:=by rw [Int.mul_assoc]
  have nx:1≤n*x:=by have:=Int.mul_le_mul hn hx.1 (by omega) (by omega);omega
  have le:n*x≤n*x*Fp d:=by have:=Int.mul_le_mul_of_nonneg_left p1 (show 0≤n*x by omega);omega
  rw [e] at hp ⊢
  have:=pgo_of d (n*x) nx hd hp
  simp only [pgo]
  rw [iNo,this]
theorem rd_take {d X:List Int} {j t:Nat} (ht:t<j) (hj:j≤d.length):rd (0:Int) (d.take j++X) (t:Int)=rd (0:Int) d (t:Int):=by
 rw [Gj _ _ _ (by rw [List.length_append,List.length_take];omega),Gj _ _ _ (by omega),List.getElem_append_left (by rw [List.length_take];omega),List.getElem_take]
theorem rd_skip {d X:List Int} {j t:Nat} (hj:j≤d.length) (ht:t<X.length):rd (0:Int) (d.take j++X) ((j+t:Nat):Int)=rd (0:Int) X (t:Int):=by
 have hl:(d.take j).length=j:=by rw [List.length_take];omega
 rw [Gj _ _ _ (by rw [List.length_append,hl];omega),Gj _ _ _ ht,List.getElem_append_right (by rw [hl];omega)]
 congr 1
 rw [hl];omega
theorem rd_dropL {d:List Int} {j t:Nat} (ht:j+t<d.length):rd (0:Int) (d.drop j) (t:Int)=rd (0:Int) d ((j+t:Nat):Int):=by
 rw [Gj _ _ _ (by rw [List.length_drop];omega),Gj _ _ _ ht,List.getElem_drop]
def Kb (d:List Int) (j:Nat):List Int:=d.take j++d.drop (j+1)
structure Cut (d:List Int) (j H D st:Nat):Prop where
 hj:j<d.length
 pos:0<prd d
 H1:1≤H
 D1:1≤D
 s1:1≤st
 eH:Fp (d.take j)=(H:Int)
 eD:rd (0:Int) d (j:Int)=(D:Int)
 eS:Fp (d.drop (j+1))=(st:Int)
 eN:prd d=((H*(D*st):Nat):Int)
 le:H*(D*st)≤4096
 leM:H*st≤4096
 posM:0<prd (Kb d j)
 eM:prd (Kb d j)=((H*st:Nat):Int)
theorem cut_of {d:List Int} {j:Nat} (h:0<prd d) (hj:j<d.length):∃ H D st:Nat,Cut d j H D st:=by
 obtain ⟨e,h1,h2⟩:=Gs h
 have hr:=F5 d
 have pH:=Gu (d.take j) (fun x hx=>(h1 x (List.mem_of_mem_take hx)).1)
 have pS:=Gu (d.drop (j+1)) (fun x hx=>(h1 x (List.mem_of_mem_drop hx)).1)
 have pD:1≤rd (0:Int) d (j:Int):=by rw [Gj _ _ _ hj];exact (h1 _ (List.getElem_mem hj)).1
 obtain ⟨H,eH⟩:=Int.eq_ofNat_of_zero_le (show 0≤Fp (d.take j) by omega)
 obtain ⟨D,eD⟩:=Int.eq_ofNat_of_zero_le (show 0≤rd (0:Int) d (j:Int) by omega)
 obtain ⟨st,eS⟩:=Int.eq_ofNat_of_zero_le (show 0≤Fp (d.drop (j+1)) by omega)
 have eN:prd d=((H*(D*st):Nat):Int):=by
  rw [e,Int.natCast_mul,Int.natCast_mul,← eH,← eD,← eS]
  have:Fp d=Fp (d.take j)*Fp (d.drop j):=by rw [← prodL_app,List.take_append_drop]
  rw [this,List.drop_eq_getElem_cons hj]
  simp only [Fp]
  rw [Gj _ _ _ hj]
 have le:H*(D*st)≤4096:=by omega
 have D1:1≤D:=by omega
 have leM:H*st≤4096:=Nat.le_trans (Nat.mul_le_mul_left _ (Nat.le_mul_of_pos_left _ D1)) le
 have eM:prd (Kb d j)=((H*st:Nat):Int):=by
  have ep:Fp (Kb d j)=((H*st:Nat):Int):=by unfold Kb;rw [prodL_app,eH,eS,Int.natCast_mul]
  have hl:(Kb d j).length≤4:=by unfold Kb;rw [List.length_append,List.length_take,List.length_drop];omega
  unfold prd
  rw [iNo,pgo_of _ 1 (by omega) (fun x hx=>by
   unfold Kb at hx
   rcases List.mem_append.1 hx with hx | hx
   ·exact h1 x (List.mem_of_mem_take hx)
   ·exact h1 x (List.mem_of_mem_drop hx)) (by rw [ep];omega),ep,Int.one_mul]
 have H1:1≤H:=by omega
 have s1:1≤st:=by omega
 have hp:1≤H*st:=Nat.mul_pos H1 s1
 exact ⟨H,D,st,hj,h,H1,D1,s1,eH,eD,eS,eN,le,leM,by omega,eM⟩
section
variable (G K:List Int) (o c w m s x l:Nat) (c1:1≤c) (w1:1≤w) (hG:G.length=o*m) (hK:K.length=o*(c*w)) (bG:o*m≤4096) (bK:o*(c*w)≤4096) (s1:1≤s) (s64:s≤64) (iG:inI G) (iK:inI K) (hx:x<c) (hl:l<4096)
include c1 w1 hG hK bG bK s1 s64 iG iK hx hl
end
section
variable (G A:List Int) (o c L w s:Nat) (o1:1≤o) (c1:1≤c) (w1:1≤w) (hG:G.length=o*Gf L w s) (hA:A.length=c*L) (bG:o*Gf L w s≤4096) (bA:c*L≤4096) (hw:w≤L) (s1:1≤s) (s64:s≤64) (iG:inI G) (iA:inI A)
include o1 c1 w1 hG hA bG bA hw s1 s64 iG iA
end
section
variable (G A:List Int) (o c L w s:Nat) (o1:1≤o) (c1:1≤c) (w1:1≤w) (hG:G.length=o*Gf L w s) (hA:A.length=c*L) (bG:o*Gf L w s≤4096) (bA:c*L≤4096) (hw:w≤L) (s1:1≤s) (s64:s≤64) (iG:inI G) (iA:inI A) (bq:o*(c*w)≤4096)
include o1 c1 w1 hG hA bG bA hw s1 s64 iG iA bq
end
section
variable (G K:List Int) (o c w m s L:Nat) (o1:1≤o) (c1:1≤c) (w1:1≤w) (hG:G.length=o*m) (hK:K.length=o*(c*w)) (bG:o*m≤4096) (bK:o*(c*w)≤4096) (s1:1≤s) (s64:s≤64) (iG:inI G) (iK:inI K) (L1:1≤L) (bL:c*L≤4096)
include o1 c1 w1 hG hK bG bK s1 s64 iG iK L1 bL
end
def bst (V:List Int) (base:Nat):Nat→Nat
 | 0=>base
 | y+1=>if rd (0:Int) V ((base+(y+1):Nat):Int)>rd (0:Int) V (bst V base y:Int) then base+(y+1) else bst V base y
theorem bst_in (V:List Int) (base:Nat):∀ y,base≤bst V base y∧bst V base y≤base+y
 | 0=>⟨Nat.le_refl _,Nat.le_refl _⟩
 | y+1=>by
  have:=bst_in V base y
  simp only [bst]
  split <;> omega
theorem tab_push2 {α:Type} (n:Nat) (g:Nat→α):Gg n g++[g n]=Gg (n+1) g:=by simp [Gg,List.range_succ]
def pl (V:List Int) (L w q:Nat):Nat:=bst V (q/(L/w)*L+q%(L/w)*w) (w-1)
theorem prd_pos2 {c m:Nat} (h1:1≤c) (h2:1≤m) (h:c*m≤4096):0<prd [(c:Int),(m:Int)]∧(prd [(c:Int),(m:Int)]).toNat=c*m:=by
 have a1:c≤c*m:=Nat.le_mul_of_pos_right _ h2
 have a2:m≤c*m:=Nat.le_mul_of_pos_left _ h1
 have e:prd [(c:Int),(m:Int)]=((c*m:Nat):Int):=by rw [prd_two,if_neg (by rw [← Int.natCast_mul];omega),Int.natCast_mul]
 rw [e]
 exact ⟨by omega,Int.toNat_natCast _⟩
section
variable (V:List Int) (c L w:Nat) (c1:1≤c) (w1:1≤w) (hw:w≤L) (hV:V.length=c*L) (bV:c*L≤4096)
include c1 w1 hw hV bV
theorem pool_m:1≤L/w∧L/w≤L∧c*(L/w)≤4096∧L≤4096:=by
 have a:L/w≤L:=Nat.div_le_self _ _
 have b:c*(L/w)≤c*L:=Nat.mul_le_mul_left _ a
 exact ⟨(Nat.le_div_iff_mul_le w1).2 (by omega),a,by omega,Nat.le_trans (Nat.le_mul_of_pos_left _ c1) bV⟩
theorem pool_in {x j y:Nat} (hx:x<c) (hj:j<L/w) (hy:y<w):x*L+j*w+y<V.length:=by
 have h1:(j+1)*w≤L/w*w:=Nat.mul_le_mul_right _ hj
 have h2:L/w*w≤L:=Nat.div_mul_le_self _ _
 rw [Nat.add_mul,Nat.one_mul] at h1
 have:=in_mat (c:=c) (L:=L) hx (show j*w+y<L by omega)
 rw [hV];omega
theorem pool_eM:IntKind.i64.wrap (Int.tdiv (L:Int) (w:Int))=((L/w:Nat):Int):=by
 obtain ⟨_,a,_,b⟩:=pool_m V c L w c1 w1 hw hV bV
 rw [Int.tdiv_eq_ediv_of_nonneg (by omega),← Int.natCast_ediv,wnat (by omega)]
theorem pool_bestP (q:Nat) (hq:q<c*(L/w)) :
  Fq (fun go (x:Int×Int)=>f150_l7 ([(c:Int),(L:Int)],V) w (q:Int) go x.1 x.2) Fv (((q/(L/w)*L+q%(L/w)*w:Nat):Int),((q/(L/w)*L+q%(L/w)*w+1:Nat):Int))=some (pl V L w q:Int):=by
 obtain ⟨m1,mL,mN,hL⟩:=pool_m V c L w c1 w1 hw hV bV
 have eM:=pool_eM V c L w c1 w1 hw hV bV
 have hx:q/(L/w)<c:=Nat.div_lt_of_lt_mul (by rw [Nat.mul_comm];exact hq)
 have hj:q%(L/w)<L/w:=Nat.mod_lt _ m1
 have eI:IntKind.i64.wrap (Int.tdiv (q:Int) ((L/w:Nat):Int))=((q/(L/w):Nat):Int):=by
  have:q/(L/w)≤q:=Nat.div_le_self _ _
  rw [Int.tdiv_eq_ediv_of_nonneg (by omega),← Int.natCast_ediv,wnat (by omega)]
 have eN:Int.tmod (q:Int) ((L/w:Nat):Int)=((q%(L/w):Nat):Int):=by
  rw [Int.tmod_eq_emod_of_nonneg (by omega),← Int.natCast_emod]
 have hend:=pool_in V c L w c1 w1 hw hV bV hx hj (show w-1<w by omega)
 unfold pl
 generalize q/(L/w)=x at *
 generalize q%(L/w)=j at *
 generalize hm:L/w=m at *
 have eB:IntKind.i64.wrap (IntKind.i64.wrap (IntKind.i64.wrap ((x:Int)*(L:Int))+IntKind.i64.wrap ((j:Int)*(w:Int)))+(w:Int))=((x*L+j*w+w:Nat):Int):=ixA x L j w w (by omega)
 have h:=F2 (B:=fun go (z:Int×Int)=>f150_l7 ([(c:Int),(L:Int)],V) w (q:Int) go z.1 z.2) (fun y=>((bst V (x*L+j*w) y:Int),((x*L+j*w+1+y:Nat):Int))) (w-1) (bst V (x*L+j*w) (w-1):Int) ?_ ?_ (by omega)
 ·exact h
 ·intro y hy go
  have hb:=bst_in V (x*L+j*w) y
  unfold f150_l7
  simp only
  have m0:((m:Nat):Int)≠0:=by omega
  rw [show rd (0:Int) [(c:Int),(L:Int)] 1=(L:Int) from rfl,eM,D4 m0,D4 m0,eI,eN,eB,dT,cond_true,D4,D4,G1 _]
  have e2:((x*L+j*w+1+y:Nat):Int)=((x*L+j*w+(y+1):Nat):Int):=by omega
  have e3:((x*L+j*w+1+y+1:Nat):Int)=((x*L+j*w+1+(y+1):Nat):Int):=by omega
  rw [e2,e3]
  simp only [bst]
  by_cases g:rd (0:Int) V ((x*L+j*w+(y+1):Nat):Int)>rd (0:Int) V (bst V (x*L+j*w) y:Int)
  ·rw [dT g,if_pos g];rfl
  ·rw [dF g,if_neg g];rfl
 ·intro go
  unfold f150_l7
  simp only
  have m0:((m:Nat):Int)≠0:=by omega
  rw [show rd (0:Int) [(c:Int),(L:Int)] 1=(L:Int) from rfl,eM,D4 m0,D4 m0,eI,eN,eB,dF,cond_false]
theorem pool_bestR (x j:Nat) (hx:x<c) (hj:j<L/w) :
  Fq (fun go (z:Int×Int)=>f103_l16 ([(c:Int),(L:Int)],V) w (x:Int) (j:Int) go z.1 z.2) Fv (((x*L+j*w:Nat):Int),(1:Int))=some (bst V (x*L+j*w) (w-1):Int):=by
 obtain ⟨m1,mL,mN,hL⟩:=pool_m V c L w c1 w1 hw hV bV
 have hend:=pool_in V c L w c1 w1 hw hV bV hx hj (show w-1<w by omega)
 have h:=F2 (B:=fun go (z:Int×Int)=>f103_l16 ([(c:Int),(L:Int)],V) w (x:Int) (j:Int) go z.1 z.2) (fun y=>((bst V (x*L+j*w) y:Int),((1+y:Nat):Int))) (w-1) (bst V (x*L+j*w) (w-1):Int) ?_ ?_ (by omega)
 ·exact h
 ·intro y hy go
  have hb:=bst_in V (x*L+j*w) y
  unfold f103_l16
  simp only
  rw [show rd (0:Int) [(c:Int),(L:Int)] 1=(L:Int) from rfl,dT,cond_true,ixA x L j w (1+y) (by omega),D4,D4,G1 _]
  have e2:((x*L+j*w+(1+y):Nat):Int)=((x*L+j*w+(y+1):Nat):Int):=by omega
  have e3:((1+y+1:Nat):Int)=((1+(y+1):Nat):Int):=by omega
  rw [e2,e3]
  simp only [bst]
  by_cases g:rd (0:Int) V ((x*L+j*w+(y+1):Nat):Int)>rd (0:Int) V (bst V (x*L+j*w) y:Int)
  ·rw [dT g,if_pos g];rfl
  ·rw [dF g,if_neg g];rfl
 ·intro go
  unfold f103_l16
  simp only
  rw [dF,cond_false]
def plT (N:Nat) (V:List Int) (L w:Nat):List Int:=Gg N (fun q=>(pl V L w q:Int))
def plV (V:List Int) (L w q:Nat):Int:=rd (0:Int) V (pl V L w q:Int)
theorem pl_in {q:Nat} (hq:q<c*(L/w)):pl V L w q<V.length:=by
 obtain ⟨m1,mL,mN,hL⟩:=pool_m V c L w c1 w1 hw hV bV
 have hx:q/(L/w)<c:=Nat.div_lt_of_lt_mul (by rw [Nat.mul_comm];exact hq)
 have hj:q%(L/w)<L/w:=Nat.mod_lt _ m1
 have hend:=pool_in V c L w c1 w1 hw hV bV hx hj (show w-1<w by omega)
 have:=bst_in V (q/(L/w)*L+q%(L/w)*w) (w-1)
 unfold pl;omega
theorem pool_loopP (r:List Int) :
  Fq (fun go (x:Int×List Int×List Int)=>f150_l6 ([(c:Int),(L:Int)],V) w (0,r,List.replicate (c*(L/w)) 0) go x.1 x.2.1 x.2.2) Fv ((0:Int),[],List.replicate (c*(L/w)) 0)=some (plT (c*(L/w)) V L w,Gg (c*(L/w)) (plV V L w)):=by
 obtain ⟨m1,mL,mN,hL⟩:=pool_m V c L w c1 w1 hw hV bV
 have eM:=pool_eM V c L w c1 w1 hw hV bV
 rw [Jh _ (plV V L w)]
 have h:=F2 (B:=fun go (x:Int×List Int×List Int)=>f150_l6 ([(c:Int),(L:Int)],V) w (0,r,upto (c*(L/w)) 0 (plV V L w)) go x.1 x.2.1 x.2.2) (fun q=>((q:Int),plT q V L w,upto (c*(L/w)) q (plV V L w))) (c*(L/w)) (plT (c*(L/w)) V L w,Gg (c*(L/w)) (plV V L w)) ?_ ?_ (by omega)
 ·exact h
 ·intro q hq go
  have hx:q/(L/w)<c:=Nat.div_lt_of_lt_mul (by rw [Nat.mul_comm];exact hq)
  have hj:q%(L/w)<L/w:=Nat.mod_lt _ m1
  have hend:=pool_in V c L w c1 w1 hw hV bV hx hj (show w-1<w by omega)
  have best:=pool_bestP V c L w c1 w1 hw hV bV q hq
  have hpl:=pl_in V c L w c1 w1 hw hV bV hq
  have eI:IntKind.i64.wrap (Int.tdiv (q:Int) ((L/w:Nat):Int))=((q/(L/w):Nat):Int):=by
   have:q/(L/w)≤q:=Nat.div_le_self _ _
   rw [Int.tdiv_eq_ediv_of_nonneg (by omega),← Int.natCast_ediv,wnat (by omega)]
  have eN:Int.tmod (q:Int) ((L/w:Nat):Int)=((q%(L/w):Nat):Int):=by
   rw [Int.tmod_eq_emod_of_nonneg (by omega),← Int.natCast_emod]
  unfold f150_l6
  simp only [Gr]
  have m0:((L/w:Nat):Int)≠0:=by omega
  have e2:IntKind.i64.wrap (IntKind.i64.wrap (((q/(L/w):Nat):Int)*(L:Int))+IntKind.i64.wrap (((q%(L/w):Nat):Int)*(w:Int)))=((q/(L/w)*L+q%(L/w)*w:Nat):Int):=by
   rw [wmul _ L (by omega),wmul _ w (by omega),wadd _ _ (by omega)]
  have hlen:(plT q V L w).length=q:=Gn _ _
  rw [show rd (0:Int) [(c:Int),(L:Int)] 1=(L:Int) from rfl,eM,dT,cond_true,D4 m0,D4 m0,eI,eN,e2,G1 _,best,Bh,D4,D4,
   D4 (by rw [hlen];simp only [List.length_cons,List.length_nil];omega),G1 q,Int.toNat_natCast]
  have:=Jz (c*(L/w)) q (plV V L w) (rd (0:Int) V (pl V L w q:Int)) hq rfl
  rw [this]
  have e4:plT q V L w++[(pl V L w q:Int)]=plT (q+1) V L w:=tab_push2 q (fun q=>(pl V L w q:Int))
  rw [e4]
 ·intro go
  unfold f150_l6
  simp only [Gr]
  rw [dF,cond_false,Ji]
theorem pool_loopR :
  Fq (fun go (x:Int×List Int×List Int)=>f103_l12 ([(c:Int),(L:Int)],V) w go x.1 x.2.1 x.2.2) Fv ((0:Int),[],List.replicate (c*(L/w)) 0)=some (plT (c*(L/w)) V L w,Gg (c*(L/w)) (plV V L w)):=by
 obtain ⟨m1,mL,mN,hL⟩:=pool_m V c L w c1 w1 hw hV bV
 have eM:=pool_eM V c L w c1 w1 hw hV bV
 have hcN:c≤c*(L/w):=Nat.le_mul_of_pos_right _ m1
 rw [Jh _ (plV V L w)]
 have h:=F2 (B:=fun go (x:Int×List Int×List Int)=>f103_l12 ([(c:Int),(L:Int)],V) w go x.1 x.2.1 x.2.2) (fun x=>((x:Int),plT (x*(L/w)) V L w,upto (c*(L/w)) (x*(L/w)) (plV V L w))) c (plT (c*(L/w)) V L w,Gg (c*(L/w)) (plV V L w)) ?_ ?_ (by omega)
 ·rw [Nat.zero_mul] at h;exact h
 ·intro x hx go
  unfold f103_l12
  simp only
  have inner:=F2 (B:=fun go (z:Int×List Int×List Int)=>f103_l15 ([(c:Int),(L:Int)],V) w (x:Int) go z.1 z.2.1 z.2.2) (fun j=>((j:Int),plT (x*(L/w)+j) V L w,upto (c*(L/w)) (x*(L/w)+j) (plV V L w))) (L/w) (plT ((x+1)*(L/w)) V L w,upto (c*(L/w)) ((x+1)*(L/w)) (plV V L w)) ?_ ?_ (by omega)
  ·rw [Nat.add_zero] at inner
   have inner':Fq (fun go (z:Int×List Int×List Int)=>f103_l15 ([(c:Int),(L:Int)],V) w (x:Int) go z.1 z.2.1 z.2.2) Fv ((0:Int),plT (x*(L/w)) V L w,upto (c*(L/w)) (x*(L/w)) (plV V L w))=_:=inner
   rw [show rd (0:Int) [(c:Int),(L:Int)] 0=(c:Int) from rfl,dT,cond_true,inner',Bh,G1 x]
  ·intro j hj go
   have hq:=in_mat (c:=c) hx hj
   obtain ⟨d1,d2⟩:=div_mat (x:=x) hj
   have hend:=pool_in V c L w c1 w1 hw hV bV hx hj (show w-1<w by omega)
   have best:=pool_bestR V c L w c1 w1 hw hV bV x j hx hj
   have hpl:=pl_in V c L w c1 w1 hw hV bV hq
   have ep:bst V (x*L+j*w) (w-1)=pl V L w (x*(L/w)+j):=by unfold pl;rw [d1,d2]
   have e2:IntKind.i64.wrap (IntKind.i64.wrap ((x:Int)*(L:Int))+IntKind.i64.wrap ((j:Int)*(w:Int)))=((x*L+j*w:Nat):Int):=by
    rw [wmul _ L (by omega),wmul _ w (by omega),wadd _ _ (by omega)]
   have hlen:(plT (x*(L/w)+j) V L w).length=x*(L/w)+j:=Gn _ _
   unfold f103_l15
   simp only [Gr]
   rw [show rd (0:Int) [(c:Int),(L:Int)] 1=(L:Int) from rfl,eM,dT,cond_true,e2,best,Bh,ep,D4,ixM x (L/w) j (by omega),D4,
    D4 (by rw [hlen];simp only [List.length_cons,List.length_nil];omega),Int.toNat_natCast,G1 j]
   have:=Jz (c*(L/w)) (x*(L/w)+j) (plV V L w) (rd (0:Int) V (pl V L w (x*(L/w)+j):Int)) hq rfl
   rw [this]
   have e4:plT (x*(L/w)+j) V L w++[(pl V L w (x*(L/w)+j):Int)]=plT (x*(L/w)+j+1) V L w:=tab_push2 _ (fun q=>(pl V L w q:Int))
   rw [e4]
   rfl
  ·intro go
   unfold f103_l15
   simp only
   rw [show rd (0:Int) [(c:Int),(L:Int)] 1=(L:Int) from rfl,eM,dF,cond_false,Nat.add_mul,Nat.one_mul]
 ·intro go
  unfold f103_l12
  simp only
  rw [show rd (0:Int) [(c:Int),(L:Int)] 0=(c:Int) from rfl,dF,cond_false,Ji]
end
def Kg (a:Tn) (wid:Int):Int×List Int×List Int×List Int:=
 if Fz a=true then
  if a.1.length=2 then
   if 1≤wid∧wid≤rd (0:Int) a.1 1 then
    (0,[rd (0:Int) a.1 0,(((rd (0:Int) a.1 1).toNat/wid.toNat:Nat):Int)],Gg ((rd (0:Int) a.1 0).toNat*((rd (0:Int) a.1 1).toNat/wid.toNat)) (plV a.2 (rd (0:Int) a.1 1).toNat wid.toNat),plT ((rd (0:Int) a.1 0).toNat*((rd (0:Int) a.1 1).toNat/wid.toNat)) a.2 (rd (0:Int) a.1 1).toNat wid.toNat)
   else (1,[],[],[])
  else (4,[],[],[])
 else (1,[],[],[])
theorem poolP (a:Tn) (wid:Int):f150 a wid=some (Kg a wid):=by
 have eg:f91 (a.1,a.2)=some (Fz a):=Gv a
 unfold f150 f150_j2 Kg
 rw [eg,Bh]
 by_cases ga:Fz a=true
 ·rw [if_pos ga,ga,Bool.not_true,cond_false]
  by_cases f1:a.1.length=2
  ·rw [if_pos f1,nF,cond_false]
   by_cases h:1≤wid∧wid≤rd (0:Int) a.1 1
   ·have hj:f150_j3 a wid=some false:=by
     unfold f150_j3
     rw [dF,cond_false,D4,dF]
    rw [if_pos h,hj,Bh,cond_false,Bh,Fu]
    obtain ⟨c,L,ea,c1,L1,la,ba⟩:=mat_nat ga f1
    obtain ⟨w,rfl⟩:=Int.eq_ofNat_of_zero_le (show 0≤wid by omega)
    generalize a.2=V at *
    subst ea
    have fw:(w:Int)≤(L:Int):=h.2
    have w1:1≤w:=by omega
    have hw:w≤L:=by omega
    obtain ⟨m1,mL,mN,hL⟩:=pool_m V c L w c1 w1 hw la ba
    obtain ⟨p0,pN⟩:=prd_pos2 c1 m1 mN
    rw [D4 (by simp),D4 (by simp),D4,D4 (by simp),show rd (0:Int) [(c:Int),(L:Int)] 0=(c:Int) from rfl,show rd (0:Int) [(c:Int),(L:Int)] 1=(L:Int) from rfl,pool_eM V c L w c1 w1 hw la ba,of_ok,if_pos p0,pN,Bh]
    simp only
    rw [pool_loopP V c L w c1 w1 hw la ba,Bh]
    rfl
   ·have hj:f150_j3 a wid=some true:=by
     unfold f150_j3
     by_cases h1:wid<1
     ·rw [dT h1];rfl
     ·rw [dF h1,cond_false,D4,dT]
    rw [if_neg h,hj];rfl
  ·rw [if_neg f1,nT];rfl
 ·rw [if_neg ga,show Fz a=false by simpa using ga];rfl
theorem poolR (a:Tn) (wid:Int):f103 a wid=some (Kg a wid):=by
 have eg:f51 (a.1,a.2)=some (Fz a):=isR a
 unfold f103 f103_j2 Kg
 rw [eg,Bh]
 by_cases ga:Fz a=true
 ·rw [if_pos ga,ga,Bool.not_true,cond_false]
  by_cases f1:a.1.length=2
  ·rw [if_pos f1,nF,cond_false]
   by_cases h:1≤wid∧wid≤rd (0:Int) a.1 1
   ·have hj:f103_j3 a wid=some false:=by
     unfold f103_j3
     rw [dF,cond_false,D4,dF]
    rw [if_pos h,hj,Bh,cond_false,Bh,Fu]
    obtain ⟨c,L,ea,c1,L1,la,ba⟩:=mat_nat ga f1
    obtain ⟨w,rfl⟩:=Int.eq_ofNat_of_zero_le (show 0≤wid by omega)
    generalize a.2=V at *
    subst ea
    have fw:(w:Int)≤(L:Int):=h.2
    have w1:1≤w:=by omega
    have hw:w≤L:=by omega
    obtain ⟨m1,mL,mN,hL⟩:=pool_m V c L w c1 w1 hw la ba
    obtain ⟨p0,pN⟩:=prd_pos2 c1 m1 mN
    rw [D4 (by simp),D4 (by simp),D4,show rd (0:Int) [(c:Int),(L:Int)] 0=(c:Int) from rfl,show rd (0:Int) [(c:Int),(L:Int)] 1=(L:Int) from rfl,pool_eM V c L w c1 w1 hw la ba,newR _ _ p0,pN,Bh]
    simp only
    rw [pool_loopR V c L w c1 w1 hw la ba,Bh]
    rfl
   ·have hj:f103_j3 a wid=some true:=by
     unfold f103_j3
     by_cases h1:wid<1
     ·rw [dT h1];rfl
     ·rw [dF h1,cond_false,D4,dT]
    rw [if_neg h,hj];rfl
  ·rw [if_neg f1,nT];rfl
 ·rw [if_neg ga,show Fz a=false by simpa using ga];rfl
end Go.Proofs.Cv
namespace Go.Proofs.Op
open Go.AM Go.Proofs.PlB Go.Proofs.PlW Go.Proofs.PlT Go.Proofs.PlS Go.Proofs.Sh Go.Proofs.Num Go.Proofs.Div Go.Proofs.PlR
theorem anyB_congr {n:Nat} {P Q:Nat→Bool} (h:∀ i,P i=Q i):anyB n P=anyB n Q:=by rw [show P=Q from funext h]
theorem jS_comm (a b:List Int):jS a b=jS b a:=by
 have e1:Kp a b=Kp b a:=by unfold Kp;split <;> split <;> omega
 have e2:∀ k,jMax a b k=jMax b a k:=fun k=>by unfold jMax;split <;> split <;> omega
 have e3:jL a b=jL b a:=by unfold jL;rw [e1];exact Gh _ _ _ (fun i _=>e2 _)
 have e4:anyB (Kp a b) (jBad a b)=anyB (Kp b a) (jBad b a):=by
  rw [e1]
  refine anyB_congr (fun k=>?_)
  unfold jBad
  rw [Bool.and_comm (Fw a k != 1),bne_comm]
 unfold jS
 rw [e3,e4]
 by_cases h:0<prd a∧0<prd b
 ·rw [if_pos h,if_pos (show 0<prd b∧0<prd a from ⟨h.2,h.1⟩)]
 ·rw [if_neg h,if_neg (show ¬(0<prd b∧0<prd a) from fun h2=>h ⟨h2.2,h2.1⟩)]
abbrev noT:Tn:=([],[])
section
variable (l:List Nd) (i:Nat)
end
end Go.Proofs.Op
namespace Go.Proofs.Cv
open Go.AM Go.Proofs.PlB Go.Proofs.PlW Go.Proofs.PlT Go.Proofs.PlS Go.Proofs.Sh Go.Proofs.Num Go.Proofs.Div Go.Proofs.Op
open Go.Proofs.PlR hiding Tn
structure GW (root:Nat) (ls:List Tn) (gv:List Bool):Prop where
 w1:ls.length=root+1
 w2:gv.length=root+1
 wI:∀ i,i≤root→inI (rd Z2 ls (i:Int)).2
def sideV (V:List Int) (D st v:Nat):Int:=sat (sg (fun k=>rd (0:Int) V ((ixs D st v k:Nat):Int)) D)
def ins (p:List Int) (j:Nat) (k:Int):List Int:=p.take j++([k]++p.drop j)
def hQ (d:List Int) (j:Nat):Nat→Int
 | 0=>1
 | t+1=>hQ d j t*rd (0:Int) d ((j+1+t:Nat):Int)
theorem hQ_prod (d:List Int) (j:Nat):∀ t,j+1+t≤d.length→hQ d j t=Fp ((d.drop (j+1)).take t)
 | 0,_=>by simp [hQ,Fp]
 | t+1,h=>by
  rw [J3 t (by rw [List.length_drop];omega),rd_dropL (by omega),← hQ_prod d j t (by omega)]
  rfl
section
variable {d:List Int} {j H D st:Nat} (C:Cut d j H D st)
include C
theorem cut_len:(Kb d j).length=d.length-1:=by
 have:=C.hj
 unfold Kb;rw [List.length_append,List.length_take,List.length_drop];omega
theorem cut_lo {t:Nat} (ht:t<j):rd (0:Int) (Kb d j) (t:Int)=rd (0:Int) d (t:Int):=rd_take ht (by have:=C.hj;omega)
theorem cut_hi {t:Nat} (ht:j+1+t<d.length):rd (0:Int) (Kb d j) ((j+t:Nat):Int)=rd (0:Int) d ((j+1+t:Nat):Int):=by
 have:=C.hj
 unfold Kb
 rw [rd_skip (by omega) (by rw [List.length_drop];omega),rd_dropL (by omega)]
theorem ins_lo {p:List Int} (hp:p.length=d.length-1) (k:Int) {t:Nat} (ht:t<j):rd (0:Int) (ins p j k) (t:Int)=rd (0:Int) p (t:Int):=rd_take ht (by have:=C.hj;omega)
theorem ins_at {p:List Int} (hp:p.length=d.length-1) (k:Int):rd (0:Int) (ins p j k) (j:Int)=k:=by
 have:=C.hj
 have h:=rd_skip (d:=p) (X:=[k]++p.drop j) (j:=j) (t:=0) (by omega) (by simp)
 exact h
theorem ins_hi {p:List Int} (hp:p.length=d.length-1) (k:Int) {t:Nat} (ht:j+1+t<d.length):rd (0:Int) (ins p j k) ((j+1+t:Nat):Int)=rd (0:Int) p ((j+t:Nat):Int):=by
 have:=C.hj
 have h:=rd_skip (d:=p) (X:=[k]++p.drop j) (j:=j) (t:=t+1) (by omega) (by simp;omega)
 rw [show j+1+t=j+(t+1) by omega]
 unfold ins
 rw [h]
 have e:rd (0:Int) ([k]++p.drop j) ((t+1:Nat):Int)=rd (0:Int) (p.drop j) (t:Int):=by
  rw [Gj _ _ _ (by simp;omega),Gj _ _ _ (by rw [List.length_drop];omega)];rfl
 rw [e,rd_dropL (by omega)]
theorem ins_len {p:List Int} (hp:p.length=d.length-1) (k:Int):(ins p j k).length=d.length:=by
 have:=C.hj
 unfold ins;simp;omega
theorem ins_within {p:List Int} (W:Within (Kb d j) p) (k:Int) (k0:0≤k) (k1:k<(D:Int)):Within d (ins p j k):=by
 have hp:p.length=d.length-1:=by rw [W.len,cut_len C]
 have hj:=C.hj
 have cl:=cut_len C
 refine ⟨ins_len C hp k,fun t ht=>?_,fun t ht=>?_⟩
 ·by_cases h:t<j
  ·rw [ins_lo C hp k h];exact W.lo t (by omega)
  ·by_cases h2:t=j
   ·subst h2;rw [ins_at C hp k];exact k0
   ·obtain ⟨u,rfl⟩:∃ u,t=j+1+u:=⟨t-(j+1),by omega⟩
    rw [ins_hi C hp k ht];exact W.lo (j+u) (by omega)
 ·by_cases h:t<j
  ·rw [ins_lo C hp k h,← cut_lo C h];exact W.hi t (by omega)
  ·by_cases h2:t=j
   ·subst h2;rw [ins_at C hp k,C.eD];exact k1
   ·obtain ⟨u,rfl⟩:∃ u,t=j+1+u:=⟨t-(j+1),by omega⟩
    rw [ins_hi C hp k ht,← cut_hi C ht];exact W.hi (j+u) (by omega)
theorem hor_lo {p:List Int} (hp:p.length=d.length-1) (k:Int):∀ t,t≤j→hor d (ins p j k) t=hor (Kb d j) p t
 | 0,_=>rfl
 | t+1,h=>by
  simp only [hor]
  rw [hor_lo hp k t (by omega),ins_lo C hp k (by omega),cut_lo C (by omega)]
theorem hor_hi {p:List Int} (hp:p.length=d.length-1) (k:Int):∀ t,j+1+t≤d.length→hor d (ins p j k) (j+1+t)=(hor (Kb d j) p j*((D:Int)-1)+k)*hQ d j t+hor (Kb d j) p (j+t)
 | 0,_=>by
  show hor d (ins p j k) j*rd (0:Int) d (j:Int)+rd (0:Int) (ins p j k) (j:Int)=_
  rw [hor_lo C hp k j (Nat.le_refl _),ins_at C hp k,C.eD,Nat.add_zero]
  simp only [hQ]
  rw [Int.mul_one,Int.mul_sub,Int.mul_one];omega
 | t+1,h=>by
  have ih:=hor_hi hp k t (by omega)
  show hor d (ins p j k) (j+1+t)*rd (0:Int) d ((j+1+t:Nat):Int)+rd (0:Int) (ins p j k) ((j+1+t:Nat):Int)=_
  rw [ih,ins_hi C hp k (by omega)]
  have e:hor (Kb d j) p (j+(t+1))=hor (Kb d j) p (j+t)*rd (0:Int) d ((j+1+t:Nat):Int)+rd (0:Int) p ((j+t:Nat):Int):=by
   rw [← cut_hi C (by omega)];rfl
  rw [e]
  simp only [hQ]
  rw [Int.add_mul,Int.mul_assoc];omega
theorem rst_div (big:List Int) (v:Int) (hb:0<prd big):∀ k,k≤big.length→rst big v k=v/J0 big k
 | 0,_=>by rw [Kj,Int.ediv_one];rfl
 | k+1,h=>by
  have:=Gp hb k
  have:=Kx hb k (by omega)
  show rst big v k/Fw big k=_
  rw [rst_div big v hb k (by omega),J5 big k (by omega),Int.mul_comm,Int.ediv_ediv_of_nonneg (by omega)]
theorem at_ins (v:Nat) (hv:v<H*st) (k:Nat) (hk:k<D) :
  f123 d (ins (plc (Kb d j) (v:Int)) j (k:Int))=some (((ixs D st v k:Nat):Int),true):=by
 have hj:=C.hj
 have W:=plc_within C.posM (v:Int)
 have hp:(plc (Kb d j) (v:Int)).length=d.length-1:=by rw [W.len,cut_len C]
 have v1:(v:Int)<prd (Kb d j):=by rw [C.eM];omega
 have hc:=hor_plc C.posM (v:Int) (by omega) v1
 have cl:=cut_len C
 rw [atR C.pos (ins_within C W (k:Int) (by omega) (by omega))]
 have e:=hor_hi C hp (k:Int) (d.length-1-j) (by omega)
 rw [show j+1+(d.length-1-j)=d.length by omega,show j+(d.length-1-j)=(Kb d j).length by omega,hc _ (Nat.le_refl _),hc j (by omega),Nat.sub_self] at e
 have eQ:hQ d j (d.length-1-j)=(st:Int):=by
  rw [hQ_prod d j _ (by omega),List.take_of_length_le (by rw [List.length_drop];omega),C.eS]
 have eR:rst (Kb d j) (v:Int) ((Kb d j).length-j)=((v/st:Nat):Int):=by
  have es:J0 (Kb d j) ((Kb d j).length-j)=(st:Int):=by
   unfold J0
   rw [show (Kb d j).length-((Kb d j).length-j)=j by omega]
   unfold Kb
   rw [List.drop_append_of_le_length (by rw [List.length_take];omega),List.drop_eq_nil_of_le (by rw [List.length_take];omega),List.nil_append]
   exact C.eS
  rw [rst_div C (Kb d j) (v:Int) C.posM _ (by omega),es,Int.natCast_ediv]
 rw [eQ,eR,show rst (Kb d j) (v:Int) 0=(v:Int) from rfl] at e
 rw [e]
 congr 2
 have d1:=C.D1
 have h3:v/st*st+v%st=v:=by rw [Nat.mul_comm];exact Nat.div_add_mod v st
 unfold ixs
 obtain ⟨D',rfl⟩:∃ D',D=D' + 1:=⟨D-1,by omega⟩
 have e1:(((D' + 1:Nat):Int)-1)=(D':Int):=by omega
 rw [e1,← Int.natCast_mul,← Int.natCast_add,← Int.natCast_mul,← Int.natCast_add]
 congr 1
 rw [Nat.mul_add,Nat.mul_one,Nat.add_right_comm,Nat.add_mul _ (v/st) st]
 omega
theorem ixs_in (v:Nat) (hv:v<H*st) (k:Nat) (hk:k<D):ixs D st v k<H*(D*st):=by
 have hs:=C.s1
 have hR:v/st<H:=Nat.div_lt_of_lt_mul (by rw [Nat.mul_comm];exact hv)
 have hl:v%st<st:=Nat.mod_lt _ hs
 unfold ixs
 have:=in_mat (in_mat (c:=H) (L:=D) hR hk) hl
 rw [Nat.mul_assoc] at this
 exact this
end
def part (V:List Int) (D st k v:Nat):Int:=sg (fun i=>if goes D st i=v then rd (0:Int) V (i:Int) else 0) k
theorem part_bd {V:List Int} (iV:inI V) (D st v:Nat):∀ k,k≤V.length→-(k*9223372036854775808)≤part V D st k v∧part V D st k v≤k*9223372036854775808
 | 0,_=>by simp [part,sg]
 | k+1,h=>by
  have:=part_bd iV D st v k (by omega)
  have q:=inI_rd iV k (by omega)
  unfold InR at q
  unfold part at this ⊢
  simp only [sg]
  split <;> constructor <;> omega
section
variable (d V:List Int) (j H D st:Nat) (C:Cut d j H D st) (hV:V.length=H*(D*st)) (iV:inI V)
include C hV iV
theorem goes_in {i:Nat} (hi:i<H*(D*st)):goes D st i<H*st:=by
 have hs:=C.s1
 have h0:i/(st*D)<H:=by
  refine Nat.div_lt_of_lt_mul ?_
  rw [Nat.mul_comm (st*D) H,Nat.mul_comm st D];exact hi
 exact in_mat h0 (Nat.mod_lt _ hs)
theorem side_far (k v:Nat) (hk:k≤H*(D*st)):PlV.far (part V D st k v):=by
 have:=part_bd iV D st v k (by omega)
 have:=C.le
 unfold PlV.far
 omega
theorem side_loop1:Fq (fun go (x:Int×List (Int×Int))=>f145_l4 (d,V) (j:Int) (strL d) go x.1 x.2) Fv ((0:Int),List.replicate (H*st) ((0:Int),(0:Int)))=some (Gg (H*st) (fun v=>PlV.pair (part V D st (H*(D*st)) v))):=by
 have hj:=C.hj
 have hs:=C.s1
 have hD:=C.D1
 have hH:=C.H1
 have hle:=C.le
 have hsD:st*D≤4096:=by rw [Nat.mul_comm];exact Nat.le_trans (Nat.le_mul_of_pos_left _ hH) hle
 have h:=F2 (B:=fun go (x:Int×List (Int×Int))=>f145_l4 (d,V) (j:Int) (strL d) go x.1 x.2) (fun k=>((k:Int),Gg (H*st) (fun v=>PlV.pair (part V D st k v)))) (H*(D*st)) (Gg (H*st) (fun v=>PlV.pair (part V D st (H*(D*st)) v))) ?_ ?_ (by omega)
 ·have e0:Gg (H*st) (fun v=>PlV.pair (part V D st 0 v))=List.replicate (H*st) ((0:Int),(0:Int)):=by
   rw [tab_rep];exact Gh _ _ _ (fun v hv=>rfl)
  rw [e0] at h;exact h
 ·intro k hk go
  have q:=inI_rd iV k (by omega)
  unfold InR at q
  have hg:=goes_in d V j H D st C hV iV hk
  have f1:=side_far d V j H D st C hV iV k (goes D st k) (by omega)
  have b1:=part_bd iV D st (goes D st k) k (by omega)
  have e7:rd (0:Int) (strL d) (j:Int)=(st:Int):=by
   unfold strL
   rw [rd_tab _ _ _ _ hj]
   unfold J0
   rw [show d.length-(d.length-1-j)=j+1 by omega]
   exact C.eS
  have eSD:IntKind.i64.wrap ((st:Int)*(D:Int))=((st*D:Nat):Int):=wmul st D (by omega)
  have n0:((st*D:Nat):Int)≠0:=by have:1≤st*D:=Nat.mul_pos hs hD;omega
  have n1:(st:Int)≠0:=by omega
  have hM:=C.leM
  have ea:IntKind.i64.wrap (IntKind.i64.wrap (IntKind.i64.wrap (Int.tdiv (k:Int) ((st*D:Nat):Int))*(st:Int))+Int.tmod (k:Int) (st:Int))=((goes D st k:Nat):Int):=by
   have a1:k/(st*D)≤k:=Nat.div_le_self _ _
   have a2:k/(st*D)*st≤goes D st k:=Nat.le_add_right _ _
   rw [Int.tdiv_eq_ediv_of_nonneg (by omega),← Int.natCast_ediv,wnat (by omega),wmul _ _ (by omega),Int.tmod_eq_emod_of_nonneg (by omega),← Int.natCast_emod,wadd _ _ (by show goes D st k<_;omega)]
   rfl
  unfold f145_l4
  simp only [Gn]
  rw [e7,C.eD,eSD,ea,dT,cond_true,D4,D4,D4 n0,D4 n1,D4,PlV.of_ok _ q.1 q.2,Bh]
  have er:rd (Ty.z (.p (.int .i64) (.int .u64))) (Gg (H*st) (fun v=>PlV.pair (part V D st k v))) ((goes D st k:Nat):Int)=PlV.pair (part V D st k (goes D st k)):=rd_tab _ _ _ _ hg
  have f2:PlV.far (rd (0:Int) V (k:Int)):=by unfold PlV.far;omega
  have f3:PlV.far (part V D st k (goes D st k)+rd (0:Int) V (k:Int)):=by unfold PlV.far;omega
  have eadd:f180 ((rd (Ty.z (.p (.int .i64) (.int .u64))) (Gg (H*st) (fun v=>PlV.pair (part V D st k v))) ((goes D st k:Nat):Int)).1,(rd (Ty.z (.p (.int .i64) (.int .u64))) (Gg (H*st) (fun v=>PlV.pair (part V D st k v))) ((goes D st k:Nat):Int)).2) ((PlV.pair (rd (0:Int) V (k:Int))).1,(PlV.pair (rd (0:Int) V (k:Int))).2)=some (PlV.pair (part V D st k (goes D st k)+rd (0:Int) V (k:Int))):=by
   rw [er];exact PlV.add_w _ _ f1 f2 f3
  rw [eadd,Bh,D4,G1 k,Int.toNat_natCast]
  congr 1
  refine Prod.ext rfl ?_
  show (Gg (H*st) (fun v=>PlV.pair (part V D st k v))).set (goes D st k) (PlV.pair (part V D st k (goes D st k)+rd (0:Int) V (k:Int)))=_
  rw [Kw]
  refine Gh _ _ _ (fun v hv=>?_)
  by_cases e:v=goes D st k
  ·subst e
   rw [if_pos rfl]
   unfold part
   simp only [sg,if_true]
  ·rw [if_neg e]
   unfold part
   simp only [sg]
   rw [if_neg (fun h=>e h.symm),Int.add_zero]
 ·intro go
  unfold f145_l4
  simp only
  rw [dF,cond_false]
theorem side_loop2:Fq (fun go (x:Int×List Int)=>f145_l5 (Gg (H*st) (fun v=>PlV.pair (part V D st (H*(D*st)) v))) go x.1 x.2) Fv ((0:Int),List.replicate (H*st) 0)=some (Gg (H*st) (sideV V D st)):=by
 have hM:=C.leM
 rw [Jh _ (sideV V D st)]
 have h:=F2 (B:=fun go (x:Int×List Int)=>f145_l5 (Gg (H*st) (fun v=>PlV.pair (part V D st (H*(D*st)) v))) go x.1 x.2) (fun v=>((v:Int),upto (H*st) v (sideV V D st))) (H*st) (Gg (H*st) (sideV V D st)) ?_ ?_ (by omega)
 ·exact h
 ·intro v hv go
  unfold f145_l5
  simp only [Gr,Gn]
  have er:rd (Ty.z (.p (.int .i64) (.int .u64))) (Gg (H*st) (fun v=>PlV.pair (part V D st (H*(D*st)) v))) (v:Int)=PlV.pair (part V D st (H*(D*st)) v):=rd_tab _ _ _ _ hv
  have ef:f182 ((rd (Ty.z (.p (.int .i64) (.int .u64))) (Gg (H*st) (fun v=>PlV.pair (part V D st (H*(D*st)) v))) (v:Int)).1,(rd (Ty.z (.p (.int .i64) (.int .u64))) (Gg (H*st) (fun v=>PlV.pair (part V D st (H*(D*st)) v))) (v:Int)).2)=some (sideV V D st v):=by
   rw [er]
   have:=PlV.fix_ok _ (side_far d V j H D st C hV iV (H*(D*st)) v (Nat.le_refl _))
   have es:part V D st (H*(D*st)) v=sg (fun k=>rd (0:Int) V ((ixs D st v k:Nat):Int)) D:=sums_eq (fun i=>rd (0:Int) V (i:Int)) H D st v C.s1 hv
   rw [es] at this ⊢
   exact this
  rw [dT,cond_true,D4,ef,Bh,D4,G1 v,Int.toNat_natCast,Jz _ v _ _ hv rfl]
 ·intro go
  unfold f145_l5
  simp only [Gr,Gn]
  rw [dF,cond_false,Ji]
theorem side_sumR (v:Nat) (hv:v<H*st) :
  ∃ z,Fq (fun go (x:Int×Bool×Int×Int×Int×Int)=>f97_l15 (d,V) (j:Int) (true,plc (Kb d j) (v:Int)) go x.1 x.2.1 x.2.2.1 x.2.2.2.1 x.2.2.2.2.1 x.2.2.2.2.2) Fv ((0:Int),false,(0:Int),(0:Int),(0:Int),(0:Int))=some z∧Nm (sg (fun k=>rd (0:Int) V ((ixs D st v k:Nat):Int)) D) z:=by
 have hj:=C.hj
 have hle:=C.le
 have hl:=G3 C.pos
 have hDle:D≤4096:=Nat.le_trans (Nat.le_mul_of_pos_right _ C.s1) (Nat.le_trans (Nat.le_mul_of_pos_left _ C.H1) hle)
 have hp:(plc (Kb d j) (v:Int)).length=d.length-1:=by rw [plc_len,cut_len C]
 have bd:∀ n,n≤D→-(n*9223372036854775808)≤sg (fun k=>rd (0:Int) V ((ixs D st v k:Nat):Int)) n∧sg (fun k=>rd (0:Int) V ((ixs D st v k:Nat):Int)) n≤n*9223372036854775808:=by
  intro n
  induction n with
  | zero=>intro _;simp [sg]
  | succ n ih=>
   intro h
   have:=ih (by omega)
   have hi:=ixs_in C v hv n (by omega)
   have q:=inI_rd iV (ixs D st v n) (by omega)
   unfold InR at q
   simp only [sg]
   constructor <;> omega
 refine loop_rel (B:=fun go (x:Int×Bool×Int×Int×Int×Int)=>f97_l15 (d,V) (j:Int) (true,plc (Kb d j) (v:Int)) go x.1 x.2.1 x.2.2.1 x.2.2.2.1 x.2.2.2.2.1 x.2.2.2.2.2)
  (fun k y=>y.1=(k:Int)∧Nm (sg (fun k=>rd (0:Int) V ((ixs D st v k:Nat):Int)) k) y.2) (fun z=>Nm (sg (fun k=>rd (0:Int) V ((ixs D st v k:Nat):Int)) D) z) D _ ⟨rfl,nm_zero⟩ ?_ ?_ (by omega)
 ·rintro k hk ⟨_,u⟩ ⟨rfl,hu⟩
  simp only at hu
  have hi:=ixs_in C v hv k hk
  have q:=inI_rd iV (ixs D st v k) (by omega)
  have b:=bd k (by omega)
  unfold InR at q
  obtain ⟨y,ey,hy⟩:=from_ok _ q.1 q.2
  have t1:Sm (sg (fun k=>rd (0:Int) V ((ixs D st v k:Nat):Int)) k):=by unfold Sm;omega
  have t2:Sm (rd (0:Int) V ((ixs D st v k:Nat):Int)):=by unfold Sm;omega
  obtain ⟨z,ez,hz⟩:=plus_nm hu hy t1 t2
  simp only at ez
  refine ⟨(((k+1:Nat):Int),z),fun go=>?_,rfl,hz⟩
  have hj16:f97_j16 (j:Int) (true,plc (Kb d j) (v:Int)) (k:Int)=some ():=by
   unfold f97_j16
   simp only [Int.toNat_natCast,List.nil_append,List.length_nil,List.length_append,List.length_take,List.length_drop,List.length_cons,hp]
   rw [D4,D4,D4,D4,D4]
  have eat:f123 d ((([]++List.take (Int.toNat (j:Int)) (plc (Kb d j) (v:Int)))++[(k:Int)])++List.drop (Int.toNat (j:Int)) (plc (Kb d j) (v:Int)))=some (((ixs D st v k:Nat):Int),true):=by
   have:=at_ins C v hv k hk
   unfold ins at this
   rw [List.nil_append,List.append_assoc,Int.toNat_natCast]
   exact this
  unfold f97_l15
  simp only
  rw [D4,C.eD,dT,cond_true,hj16,Bh,eat,Bh,D4,ey,Bh,ez,Bh,G1 k]
 ·rintro ⟨_,u⟩ ⟨rfl,hu⟩
  refine ⟨u,fun go=>?_,hu⟩
  unfold f97_l15
  simp only
  rw [D4,C.eD,dF,cond_false]
theorem side_loopR:Fq (fun go (x:Int×List Int)=>f97_l12 (d,V) (j:Int) go x.1 x.2) Fv ((0:Int),List.replicate (H*st) 0)=some (Gg (H*st) (sideV V D st)):=by
 have hj:=C.hj
 have hM:=C.leM
 have hle:=C.le
 have hl:=G3 C.pos
 have hDle:D≤4096:=Nat.le_trans (Nat.le_mul_of_pos_right _ C.s1) (Nat.le_trans (Nat.le_mul_of_pos_left _ C.H1) hle)
 rw [Jh _ (sideV V D st)]
 have h:=F2 (B:=fun go (x:Int×List Int)=>f97_l12 (d,V) (j:Int) go x.1 x.2) (fun v=>((v:Int),upto (H*st) v (sideV V D st))) (H*st) (Gg (H*st) (sideV V D st)) ?_ ?_ (by omega)
 ·exact h
 ·intro v hv go
  have v1:(v:Int)<prd (Kb d j):=by rw [C.eM];omega
  have pl:=placeR (Kb d j) C.posM (v:Int) (by omega) v1
  have ec:(([]++List.take (Int.toNat (j:Int)) d)++List.drop (Int.toNat (IntKind.i64.wrap ((j:Int)+1))) d)=Kb d j:=by
   rw [G1 j,Int.toNat_natCast,Int.toNat_natCast,List.nil_append];rfl
  obtain ⟨z,ez,hz⟩:=side_sumR d V j H D st C hV iV v hv
  have hs:Sm (sg (fun k=>rd (0:Int) V ((ixs D st v k:Nat):Int)) D):=by
   have es:part V D st (H*(D*st)) v=sg (fun k=>rd (0:Int) V ((ixs D st v k:Nat):Int)) D:=sums_eq (fun i=>rd (0:Int) V (i:Int)) H D st v C.s1 hv
   have:=side_far d V j H D st C hV iV (H*(D*st)) v (Nat.le_refl _)
   rw [← es]
   unfold PlV.far at this
   unfold Sm;omega
  unfold f97_l12
  simp only [Gr]
  rw [dT,cond_true,ec,pl,Bh,ez,Bh,held_nm hz hs,Bh,D4,G1 v,Int.toNat_natCast,Jz (H*st) v (sideV V D st) (sat (sg (fun k=>rd (0:Int) V ((ixs D st v k:Nat):Int)) D)) hv rfl]
 ·intro go
  unfold f97_l12
  simp only [Gr]
  rw [dF,cond_false,Ji]
end
abbrev Gt (a:Tn) (Fw:Int):Prop:=Fz a=true∧0≤Fw∧Fw<a.1.length
def sideS (a:Tn) (Fw:Int):Int×Tn:=
 if Gt a Fw then (0,Kb a.1 Fw.toNat,Gg (prd (Kb a.1 Fw.toNat)).toNat (sideV a.2 (rd (0:Int) a.1 Fw).toNat (Fp (a.1.drop (Fw.toNat+1))).toNat)) else (1,[],[])
theorem side_j3 (a:Tn) (Fw:Int):f145_j3 a Fw=some (!(decide (Gt a Fw))):=by
 unfold f145_j3
 have e1:f91 (a.1,a.2)=some (Fz a):=Gv a
 generalize hd:decide (Gt a Fw)=d
 rw [e1,Bh]
 by_cases ha:Fz a=true
 ·rw [ha,Bool.not_true,cond_false]
  by_cases h1:Fw<0
  ·rw [dT h1];rw [dF (show ¬Gt a Fw from fun h=>by omega)] at hd;rw [← hd];rfl
  ·rw [dF h1,cond_false]
   by_cases h2:Fw≥a.1.length
   ·rw [dT h2];rw [dF (show ¬Gt a Fw from fun h=>by omega)] at hd;rw [← hd];rfl
   ·rw [dF h2];rw [dT (show Gt a Fw from ⟨ha,by omega,by omega⟩)] at hd;rw [← hd];rfl
 ·rw [show Fz a=false by simpa using ha];rw [dF (show ¬Gt a Fw from fun h=>ha h.1)] at hd;rw [← hd];rfl
theorem side_j3r (a:Tn) (Fw:Int):f97_j3 a Fw=some (!(decide (Gt a Fw))):=by
 unfold f97_j3
 have e1:f51 (a.1,a.2)=some (Fz a):=isR a
 generalize hd:decide (Gt a Fw)=d
 rw [e1,Bh]
 by_cases ha:Fz a=true
 ·rw [ha,Bool.not_true,cond_false]
  by_cases h1:Fw<0
  ·rw [dT h1];rw [dF (show ¬Gt a Fw from fun h=>by omega)] at hd;rw [← hd];rfl
  ·rw [dF h1,cond_false]
   by_cases h2:Fw≥a.1.length
   ·rw [dT h2];rw [dF (show ¬Gt a Fw from fun h=>by omega)] at hd;rw [← hd];rfl
   ·rw [dF h2];rw [dT (show Gt a Fw from ⟨ha,by omega,by omega⟩)] at hd;rw [← hd];rfl
 ·rw [show Fz a=false by simpa using ha];rw [dF (show ¬Gt a Fw from fun h=>ha h.1)] at hd;rw [← hd];rfl
theorem side_val {a:Tn} {j H D st:Nat} (C:Cut a.1 j H D st) (h:Gt a (j:Int)):sideS a (j:Int)=(0,Kb a.1 j,Gg (H*st) (sideV a.2 D st)):=by
 unfold sideS
 rw [if_pos h,Int.toNat_natCast,C.eM,C.eD,C.eS,Int.toNat_natCast,Int.toNat_natCast,Int.toNat_natCast]
theorem sideP (a:Tn) (Fw:Int) (ia:inI a.2):f145 a Fw=some (sideS a Fw):=by
 unfold f145 f145_j2
 rw [side_j3,Bh]
 by_cases h:Gt a Fw
 ·obtain ⟨ga,s0,s1⟩:=h
  obtain ⟨j,rfl⟩:=Int.eq_ofNat_of_zero_le s0
  obtain ⟨hp,hl,l1,l2⟩:=Ga ga
  obtain ⟨H,D,st,C⟩:=cut_of hp (show j<a.1.length by omega)
  have hV:a.2.length=H*(D*st):=by have:=C.eN;omega
  have hM:=C.leM
  rw [side_val C ⟨ga,s0,s1⟩,dT (show Gt a (j:Int) from ⟨ga,s0,s1⟩),Bool.not_true,cond_false,Bh,Fu,D4,G1 j,D4]
  have ec:([]++List.take (Int.toNat (j:Int)) a.1)++List.drop (Int.toNat ((j+1:Nat):Int)) a.1=Kb a.1 j:=by
   rw [Int.toNat_natCast,Int.toNat_natCast,List.nil_append];rfl
  have cl:=cut_len C
  rw [D4 (by simp only [List.length_nil,List.length_take];omega),D4 (by simp only [List.length_append,List.length_nil,List.length_take,List.length_drop];omega),ec,PlB.size_ok,Bh,C.eM,Int.toNat_natCast,D4,strides a.1 hp,Bh,
   D4 (by unfold strL;rw [Gn];omega)]
  have e1:Fq (fun go (x:Int×List (Int×Int))=>f145_l4 a (j:Int) (strL a.1) go x.1 x.2) Fv ((0:Int),List.replicate (H*st) (Ty.z (.p (.int .i64) (.int .u64))))=_:=side_loop1 a.1 a.2 j H D st C hV ia
  rw [e1,Bh,new_ok,if_pos C.posM,Bh,C.eM,Int.toNat_natCast]
  simp only
  rw [side_loop2 a.1 a.2 j H D st C hV ia,Bh]
 ·unfold sideS
  rw [if_neg h,dF h];rfl
theorem sideR (a:Tn) (Fw:Int) (ia:inI a.2):f97 a Fw=some (sideS a Fw):=by
 unfold f97 f97_j2
 rw [side_j3r,Bh]
 by_cases h:Gt a Fw
 ·obtain ⟨ga,s0,s1⟩:=h
  obtain ⟨j,rfl⟩:=Int.eq_ofNat_of_zero_le s0
  obtain ⟨hp,hl,l1,l2⟩:=Ga ga
  obtain ⟨H,D,st,C⟩:=cut_of hp (show j<a.1.length by omega)
  have hV:a.2.length=H*(D*st):=by have:=C.eN;omega
  have hM:=C.leM
  rw [side_val C ⟨ga,s0,s1⟩,dT (show Gt a (j:Int) from ⟨ga,s0,s1⟩),Bool.not_true,cond_false,Bh,Fu,D4,G1 j,D4]
  have ec:([]++List.take (Int.toNat (j:Int)) a.1)++List.drop (Int.toNat ((j+1:Nat):Int)) a.1=Kb a.1 j:=by
   rw [Int.toNat_natCast,Int.toNat_natCast,List.nil_append];rfl
  rw [D4 (by simp only [List.length_nil,List.length_take];omega),D4 (by simp only [List.length_append,List.length_nil,List.length_take,List.length_drop];omega),ec,newR _ _ C.posM,Bh,C.eM,Int.toNat_natCast]
  have e1:Fq (fun go (x:Int×List Int)=>f97_l12 a (j:Int) go x.1 x.2) Fv ((0:Int),List.replicate (H*st) 0)=_:=side_loopR a.1 a.2 j H D st C hV ia
  simp only
  rw [e1,Bh]
 ·unfold sideS
  rw [if_neg h,dF h];rfl
end Go.Proofs.Cv
namespace Go.Proofs.Op
open Go.AM Go.Proofs.PlB Go.Proofs.PlW Go.Proofs.PlT Go.Proofs.PlS Go.Proofs.Sh Go.Proofs.Num Go.Proofs.Div
open Go.Proofs.PlR hiding Tn
section
variable (l:List Nd) (i:Nat)
end
open Go.AM Go.Proofs.PlB Go.Proofs.PlW Go.Proofs.PlT Go.Proofs.PlS Go.Proofs.Sh Go.Proofs.Num Go.Proofs.Div Go.Proofs.PlR
def cntK (op k:Int):Int:=if op=5∨op=8∨op=11∨op=12∨op=13 then k else 0
theorem cnt_ok (op k:Int):f93_j2 op k=some (cntK op k):=by
 unfold f93_j2 f119 cntK
 by_cases h1:op=5
 ·rw [bT h1,if_pos (.inl h1)];rfl
 rw [bF h1,cond_false]
 by_cases h2:op=8
 ·rw [bT h2,iPo];rfl
 rw [bF h2,cond_false]
 by_cases h3:op=11
 ·rw [bT h3,iPo];rfl
 rw [bF h3,cond_false]
 by_cases h4:op=12
 ·rw [bT h4,iPo];rfl
 rw [bF h4,cond_false]
 by_cases h5:op=13
 ·rw [bT h5,iPo];rfl
 rw [bF h5,iNo];rfl
def isTwo (op:Int):Bool:=decide (op=2∨op=3∨op=4∨op=6∨op=12)
theorem two_ok (op:Int):f118 op=some (isTwo op):=by
 unfold f118 isTwo
 by_cases h1:op=2
 ·rw [bT h1,dT (.inl h1)];rfl
 rw [bF h1,cond_false]
 by_cases h2:op=3
 ·rw [bT h2,dT];rfl
 rw [bF h2,cond_false]
 by_cases h3:op=4
 ·rw [bT h3,dT];rfl
 rw [bF h3,cond_false]
 by_cases h4:op=6
 ·rw [bT h4,dT];rfl
 rw [bF h4,cond_false]
 by_cases h5:op=12
 ·rw [bT h5,dT]
 rw [bF h5,dF]
theorem twoR (op:Int):f72 op=some (isTwo op):=two_ok op
theorem cntR (op k:Int):f47_j3 op k=some (cntK op k):=cnt_ok op k
theorem leafR (l:List Nd) (a:Tn) (h:l.length<512) (hg:Fz a=true):f46 l a=some ((l.length:Int),0,l++[(1,-1,-1,0,a.1,a.2)]):=by
 obtain ⟨_,_,l1,l2⟩:=Ga hg
 unfold f46 f46_j1
 have e:f51 (a.1,a.2)=some (Fz a):=isR a
 have h1:(List.length ([]:List Int)+a.1.length)*8≤140737488355328:=by simp only [List.length_nil];omega
 have h2:(List.length ([]:List Int)+a.2.length)*8≤140737488355328:=by simp only [List.length_nil];omega
 have h3:∀ x:Nd,(l.length+List.length [x])*80≤140737488355328:=fun x=>by simp only [List.length_cons,List.length_nil];omega
 rw [dF,cond_false,e,hg,Bh,Bool.not_true,cond_false,D4 h1,D4 h2,Bh,D4 (h3 _),List.length_append,Fl (by simp <;> omega) (by simp <;> omega)]
 simp
end Go.Proofs.Op
namespace Go.Proofs.Cv
open Go.AM Go.Proofs.PlB Go.Proofs.PlW Go.Proofs.PlT Go.Proofs.PlS Go.Proofs.Sh Go.Proofs.Num Go.Proofs.Div Go.Proofs.Op
open Go.Proofs.PlR hiding Tn
theorem tabGood {d:List Int} {N:Nat} {g:Nat→Int} (h:0<prd d) (hN:(N:Int)=prd d) (hg:∀ i,i<N→InR (g i)):GoodT (d,Gg N g):=
 ⟨tgood_of h (by simp only [Gn];exact hN),inI_tab hg⟩
theorem both_good (f:Int→Int→Int) (hf:∀ x y,InR (f x y)) (a b:Tn) (h:(J9 f a b).1=0):GoodT (J9 f a b).2:=by
 unfold J9 at h ⊢
 by_cases c:Fz a=true∧Fz b=true
 ·rw [if_pos c] at h ⊢
  by_cases e:(jS a.1 b.1).1=0
  ·rw [if_pos e] at h ⊢
   have J:=jS_zero e
   have:=F5 (jS a.1 b.1).2
   exact tabGood J.pd (by have:=J.pd;omega) (fun i hi=>hf _ _)
  ·rw [if_neg e] at h;exact absurd h e
 ·rw [if_neg c] at h;exact absurd h (by decide)
theorem bent_good (k:Int) (a:Tn) (ia:inI a.2) (h:(bentS k a).1=0):GoodT (bentS k a).2:=by
 unfold bentS at h ⊢
 by_cases c:1≤k∧k≤5∧Fz a=true
 ·rw [if_pos c] at h ⊢
  obtain ⟨p,q,_,_⟩:=Ga c.2.2
  exact tabGood p q (fun i hi=>bendV_in _ _ (inI_rd ia i hi))
 ·rw [if_neg c] at h;exact absurd h (by decide)
theorem resh_good (a:Tn) (d:List Int) (ia:inI a.2) (h:(reshS a d).1=0):GoodT (reshS a d).2:=by
 unfold reshS at h ⊢
 by_cases c:Fz a=true∧0<prd d
 ·rw [if_pos c] at h ⊢
  by_cases e:prd d=a.2.length
  ·rw [if_pos e] at h ⊢
   exact ⟨tgood_of c.2 e.symm,ia⟩
  ·rw [if_neg e] at h;exact absurd h (by decide)
 ·rw [if_neg c] at h;exact absurd h (by decide)
theorem row_good2 (a k:Tn) (s:Int) (h:(rowS a k s).1=0):GoodT (rowS a k s).2:=by
 unfold rowS at h ⊢
 by_cases c:Jp a k s
 ·rw [if_pos c] at h ⊢
  by_cases e:Jx a k
  ·rw [if_pos e] at h ⊢
   by_cases n0:0<prd [rd (0:Int) k.1 0,(Gf (rd (0:Int) a.1 1).toNat (rd (0:Int) k.1 2).toNat s.toNat:Int)]
   ·rw [if_pos n0] at h ⊢
    obtain ⟨h1,h2,h3⟩:=prod2 n0
    exact tabGood n0 (by rw [Int.natCast_mul,Int.toNat_of_nonneg (by omega),h3]) (fun i hi=>sat_in _)
   ·rw [if_neg n0] at h;exact absurd h (by decide)
  ·rw [if_neg e] at h;exact absurd h (by decide)
 ·rw [if_neg c] at h;exact absurd h (by decide)
theorem side_good (a:Tn) (s:Int) (h:(sideS a s).1=0):GoodT (sideS a s).2:=by
 unfold sideS at h ⊢
 by_cases c:Gt a s
 ·rw [if_pos c] at h ⊢
  obtain ⟨ga,s0,s1⟩:=c
  obtain ⟨hp,hl,l1,l2⟩:=Ga ga
  obtain ⟨H,D,st,C⟩:=cut_of hp (show s.toNat<a.1.length by omega)
  have:=C.posM
  exact tabGood C.posM (by omega) (fun i hi=>sat_in _)
 ·rw [if_neg c] at h;exact absurd h (by decide)
theorem pool_good (a:Tn) (w:Int) (ia:inI a.2) (h:(Kg a w).1=0):GoodT ((Kg a w).2.1,(Kg a w).2.2.1):=by
 unfold Kg at h ⊢
 by_cases c:Fz a=true
 ·rw [if_pos c] at h ⊢
  by_cases e:a.1.length=2
  ·rw [if_pos e] at h ⊢
   by_cases f:1≤w∧w≤rd (0:Int) a.1 1
   ·rw [if_pos f] at h ⊢
    obtain ⟨cc,L,ea,c1,L1,la,ba⟩:=mat_nat c e
    obtain ⟨w',rfl⟩:=Int.eq_ofNat_of_zero_le (show 0≤w by omega)
    clear h c e
    generalize a.2=V at *
    subst ea
    have fw:(w':Int)≤(L:Int):=f.2
    have w1:1≤w':=by omega
    obtain ⟨m1,mL,mN,hL⟩:=pool_m V cc L w' c1 w1 (by omega) la ba
    obtain ⟨p0,pN⟩:=prd_pos2 c1 m1 mN
    exact tabGood (d:=[(cc:Int),((L/w':Nat):Int)]) (N:=cc*(L/w')) (g:=plV V L w') p0 (by omega) (fun i hi=>inI_rd ia _ (pl_in V cc L w' c1 w1 (by omega) la ba hi))
   ·rw [if_neg f] at h;exact absurd h (by decide)
  ·rw [if_neg e] at h;exact absurd h (by decide)
 ·rw [if_neg c] at h;exact absurd h (by decide)
def wh (k:Int):Int:=if k < -1000000∨k>1000000 then -1000000 else k
theorem whole_ok (k:Int):f98 k=some (wh k):=by
 unfold f98 wh
 by_cases h1:k < -1000000
 ·rw [dT h1,if_pos (.inl h1)];rfl
 ·rw [dF h1,cond_false]
  by_cases h2:k>1000000
  ·rw [dT h2,if_pos (.inr h2)];rfl
  ·rw [dF h2,iNo];rfl
theorem wh_or (k:Int):wh k=k∨(wh k=-1000000∧(k < -1000000∨k>1000000)):=by
 unfold wh
 by_cases h:k < -1000000∨k>1000000
 ·rw [if_pos h];exact .inr ⟨rfl,h⟩
 ·rw [if_neg h];exact .inl rfl
theorem side_wh (a:Tn) (k:Int) (ga:Fz a=true):sideS a (wh k)=sideS a k:=by
 obtain ⟨_,_,l1,_⟩:=Ga ga
 rcases wh_or k with e | ⟨e,h⟩
 ·rw [e]
 ·rw [e];unfold sideS
  rw [if_neg (fun c=>by have:=c.2.1;omega),if_neg (fun c=>by have:=c.2.1;have:=c.2.2;omega)]
theorem bent_wh (a:Tn) (k:Int):bentS (wh k) a=bentS k a:=by
 rcases wh_or k with e | ⟨e,h⟩
 ·rw [e]
 ·rw [e];unfold bentS
  rw [if_neg (fun c=>by have:=c.1;omega),if_neg (fun c=>by have:=c.1;have:=c.2.1;omega)]
theorem row_wh (a b:Tn) (k:Int):rowS a b (wh k)=rowS a b k:=by
 rcases wh_or k with e | ⟨e,h⟩
 ·rw [e]
 ·rw [e];unfold rowS
  rw [if_neg (fun c=>by have:=c.2.2.1;omega),if_neg (fun c=>by have:=c.2.2.1;have:=c.2.2.2;omega)]
theorem pool_wh (a:Tn) (k:Int) (ga:Fz a=true):Kg a (wh k)=Kg a k:=by
 rcases wh_or k with e | ⟨e,h⟩
 ·rw [e]
 ·rw [e];unfold Kg
  rw [if_pos ga,if_pos ga]
  by_cases f:a.1.length=2
  ·rw [if_pos f,if_pos f]
   obtain ⟨c,L,ea,c1,L1,la,ba⟩:=mat_nat ga f
   have hL:rd (0:Int) a.1 1=(L:Int):=by rw [ea];rfl
   have:L≤4096:=Nat.le_trans (Nat.le_mul_of_pos_left _ c1) ba
   rw [if_neg (fun c=>by omega),if_neg (fun c=>by omega)]
  ·rw [if_neg f,if_neg f]
abbrev Lay:=ByteArray×Int×Int
abbrev Nt:=(List Int)×(List Lay)
abbrev zLay:Lay:=Ty.z (.p .str (.p (.int .i64) (.int .i64)))
abbrev zL:List Int:=Ty.z (.sl (.int .i64))
def ly (n:Nt) (i:Nat):Lay:=rd zLay n.2 (i:Int)
def kd (b:ByteArray) (l:Lay):Bool:=(ByteArray.toList l.1==ByteArray.toList b)
abbrev F6:ByteArray:=ByteArray.mk #[100,101,110,115,101]
abbrev Gq:ByteArray:=ByteArray.mk #[99,111,110,118]
abbrev Jg:ByteArray:=ByteArray.mk #[112,111,111,108]
theorem prod_ok {d:List Int} (h:0<prd d):f42 d=some (prd d):=by
 obtain ⟨e,h1,h2⟩:=Gs h
 have hr:=F5 d
 unfold f42
 have L:=F2 (B:=fun go (x:Int×Int)=>f42_l1 d go x.1 x.2) (fun k=>(Fp (d.take k),(k:Int))) d.length (prd d) ?_ ?_ (by omega)
 ·have L':Fq (fun go (x:Int×Int)=>f42_l1 d go x.1 x.2) Fv ((1:Int),(0:Int))=_:=L
  rw [L'];rfl
 ·intro k hk go
  obtain ⟨p1,p2⟩:=prodL_le (fun x hx=>(h1 x hx).1) (k+1)
  unfold f42_l1
  simp only
  rw [dT,cond_true,D4,G1 k,← J3 k hk,Fl]
 ·intro go
  unfold f42_l1
  simp only
  rw [dF,cond_false,List.take_length,e]
theorem within_ok (v m:Int):f60 v m=some (decide (1≤v∧v≤m)):=by
 unfold f60
 by_cases h:v≥1
 ·rw [dT h,cond_true];congr 1;rw [decide_eq_decide];omega
 ·rw [dF h,cond_false,dF (fun hh=>h hh.1)]
theorem kd_ne {a b:ByteArray} {l:Lay} (h:kd a l=true) (hab:(ByteArray.toList a==ByteArray.toList b)=false):kd b l=false:=by
 unfold kd at h ⊢
 have h1:=eq_of_beq h
 rw [h1];exact hab
theorem cloneS (d:List Int) (hl:d.length≤4096):f61 d=some d:=PlB.clone_d d (by omega)
def Fit (p:Option (Bool×List Int)) (n:Nat):Prop:=∃ b d,p=some (b,d)∧d.length≤n
def dm (d:List (List Int)) (i:Nat):List Int:=rd zL d (i:Int)
theorem dm_app (d:List (List Int)) (o:List Int) (i:Nat) (h:i<d.length):dm (d++[o]) i=dm d i:=rd_app _ _ _ _ h
theorem dm_last (d:List (List Int)) (o:List Int):dm (d++[o]) d.length=o:=rd_last _ _ _
def DD (d:List Int):Prop:=d.length≤2∧∀ x ∈ d,1≤x∧x≤1024
theorem dd_rd {d:List Int} (h:DD d) (i:Nat) (hi:i<d.length):1≤rd (0:Int) d (i:Int)∧rd (0:Int) d (i:Int)≤1024:=by
 rw [Gj _ _ _ hi];exact h.2 _ (List.getElem_mem hi)
theorem Km {a b A B:Int} (a0:1≤a) (a1:a≤A) (b0:1≤b) (b1:b≤B):1≤a*b∧a*b≤A*B:=by
 have h1:=Int.mul_le_mul a1 b1 (by omega) (by omega)
 have h2:=Int.mul_le_mul a0 b0 (by omega) (by omega)
 omega
theorem in_ok (v lo hi:Int):f67 v lo hi=some (decide (lo≤v∧v≤hi)):=by
 unfold f67
 by_cases h:v≥lo
 ·rw [dT h,cond_true];congr 1;rw [decide_eq_decide];omega
 ·rw [dF h,cond_false,dF (fun hh=>h hh.1)]
structure FL (l:Lay):Prop where
 fD:kd F6 l=true→1≤l.2.1∧l.2.1≤256
 fC:kd Gq l=true→1≤l.2.1∧l.2.1≤16∧1≤l.2.2∧l.2.2≤16
 fP:kd Jg l=true→1≤l.2.1
structure RS (k:Nat) (all:Int) (l:List (List Int)):Prop where
 sL:l.length=k+1
 sDD:∀ i,i≤k→DD (dm l i)
 sA:0≤all∧all≤4097
abbrev bBn:ByteArray:=ByteArray.mk #[98,101,110,100]
abbrev bSk:ByteArray:=ByteArray.mk #[115,107,105,112]
def lok (l:Lay):Bool:=
 bif kd F6 l then decide ((1≤l.2.1∧l.2.1≤256)∧l.2.2=0)
 else bif kd Gq l then decide ((1≤l.2.1∧l.2.1≤16)∧1≤l.2.2∧l.2.2≤16)
 else bif kd Jg l then decide ((1≤l.2.1∧l.2.1≤16)∧l.2.2=0)
 else bif kd bBn l then decide ((1≤l.2.1∧l.2.1≤5)∧l.2.2=0)
 else bif kd bSk l then decide (l.2.1=0∧l.2.2=0) else false
def iok (d:List Int):Bool:=
 bif decide (d.length=1) then decide (1≤rd (0:Int) d 0∧rd (0:Int) d 0≤1024)
 else bif decide (d.length=2) then decide ((1≤rd (0:Int) d 0∧rd (0:Int) d 0≤64)∧1≤rd (0:Int) d 1∧rd (0:Int) d 1≤64) else false
def fbad (n:Nt):Option Nat:=Ks (fun i=>!lok (ly n i)) 0 n.2.length
def gok (n:Nt):Bool:=bif (fbad n).isSome then false else iok n.1
theorem bifd {p q:Prop} [Decidable p] [Decidable q]:(bif decide p then some (decide q) else some false)=some (decide (p∧q)):=by
 by_cases hp:p
 ·rw [dT hp,cond_true];congr 1;rw [decide_eq_decide];exact ⟨fun h=>⟨hp,h⟩,fun h=>h.2⟩
 ·rw [dF hp,cond_false,dF (fun h=>hp h.1)]
theorem rf_lay (n:Nt) (i:Nat):f39_j5 n (i:Int)=some (lok (ly n i)):=by
 unfold f39_j5 lok
 rw [show rd (Ty.z (.p .str (.p (.int .i64) (.int .i64)))) n.2 (i:Int)=ly n i from rfl]
 show (bif kd F6 (ly n i) then _ else bif kd Gq (ly n i) then _ else bif kd Jg (ly n i) then _ else bif kd bBn (ly n i) then _ else bif kd bSk (ly n i) then _ else _)=_
 cases kd F6 (ly n i)
 ·rw [cond_false,cond_false]
  cases kd Gq (ly n i)
  ·rw [cond_false,cond_false]
   cases kd Jg (ly n i)
   ·rw [cond_false,cond_false]
    cases kd bBn (ly n i)
    ·rw [cond_false,cond_false]
     cases kd bSk (ly n i)
     ·rfl
     ·rw [cond_true,cond_true];exact bifd
    ·rw [cond_true,cond_true,in_ok,Bh];exact bifd
   ·rw [cond_true,cond_true,in_ok,Bh];exact bifd
  ·rw [cond_true,cond_true,in_ok,Bh]
   have e:(Ey (f67 (ly n i).2.2 1 16) fun r39=>some r39)=some (decide (1≤(ly n i).2.2∧(ly n i).2.2≤16)):=by rw [in_ok,Bh]
   rw [e];exact bifd
 ·rw [cond_true,cond_true,in_ok,Bh];exact bifd
theorem rf_in (n:Nt):f39_j1 n=some (bif iok n.1 then Sum.inl () else Sum.inr ()):=by
 unfold f39_j1 iok
 by_cases e1:n.1.length=1
 ·rw [bT (by omega),cond_true,D4,in_ok,Bh,dT e1,cond_true]
  cases decide (1≤rd (0:Int) n.1 0∧rd (0:Int) n.1 0≤1024) <;> rfl
 ·rw [bF (by omega),cond_false,dF e1,cond_false]
  by_cases e2:n.1.length=2
  ·rw [bT (by omega),cond_true,D4,in_ok,Bh,D4,in_ok,Bh,dT e2,cond_true]
   by_cases h:1≤rd (0:Int) n.1 0∧rd (0:Int) n.1 0≤64
   ·by_cases h':1≤rd (0:Int) n.1 1∧rd (0:Int) n.1 1≤64
    ·rw [dT h,dT h',dT ⟨h,h'⟩];rfl
    ·rw [dT h,dF h',dF (fun hh=>h' hh.2)];rfl
   ·rw [dF h,dF (p:=(1≤rd (0:Int) n.1 0∧rd (0:Int) n.1 0≤64)∧1≤rd (0:Int) n.1 1∧rd (0:Int) n.1 1≤64) (fun hh=>h hh.1)];rfl
  ·rw [bF (by omega),cond_false,dF e2];rfl
theorem formedR (n:Nt) (hN:n.2.length≤40):f39 n=some (gok n):=by
 unfold f39 gok fbad
 rw [rf_in,Bh]
 cases hi:iok n.1
 ·rw [cond_false,F4]
  cases (Ks (fun i=>!lok (ly n i)) 0 n.2.length) <;> rfl
 ·rw [cond_true,Fu]
  have LL:=loop_find (B:=fun go x=>f39_l4 n go x) (fun k=>(k:Int)) (fun i=>!lok (ly n i)) (fun _=>Sum.inl ()) (Sum.inr ()) n.2.length ?_ ?_ ?_ (by omega)
  ·have L':Fq (fun go x=>f39_l4 n go x) Fv (0:Int)=_:=LL
   rw [L',Bh]
   cases Ks (fun i=>!lok (ly n i)) 0 n.2.length <;> rfl
  ·intro k hk hp go
   unfold f39_l4
   rw [dT,cond_true,D4,rf_lay,Bh,hp,cond_false,G1 k]
  ·intro k hk hp go
   unfold f39_l4
   rw [dT,cond_true,D4,rf_lay,Bh,hp,cond_true]
  ·intro go
   unfold f39_l4
   rw [dF,cond_false]
theorem bneI (x:Int):(bif (x != (0:Int)) then some (Sum.inr ()) else some (Sum.inl ()):Option (Sum Unit Unit))=some (bif decide (x=0) then Sum.inl () else Sum.inr ()):=by
 by_cases h:x=0
 ·rw [nF h,dT h];rfl
 ·rw [nT h,dF h];rfl
theorem good_lo {l:Lay} {v:Int} (h:f38 l.1=some v) (hv:v<2):f59_j1 l=some (bif decide (l.2.2=0) then Sum.inl () else Sum.inr ()):=by
 unfold f59_j1
 rw [h,Bh,dT hv,cond_true];exact bneI _
theorem sum_b {X:Type} {b:Bool} {f g:Unit→Option X}:Fx (bif b then Sum.inl () else Sum.inr ()) f g=bif b then f () else g ():=by cases b <;> rfl
theorem swap_d {p q:Prop} [Decidable p] [Decidable q]:(bif decide q then some (decide p) else some false)=some (decide (p∧q)):=by
 rw [bifd];congr 1;rw [decide_eq_decide];exact And.comm
theorem lgoodP (l:Lay):f59 l=some (lok l):=by
 have cnt:∀ v,f38 l.1=some v↔(bif (bif kd F6 l then true else bif kd Jg l then true else kd bBn l) then some (1:Int) else bif kd Gq l then some (2:Int) else bif kd bSk l then some (0:Int) else some (-1:Int))=some v:=fun v=>by
  have e:f38 l.1=(bif (bif kd F6 l then true else bif kd Jg l then true else kd bBn l) then some (1:Int) else bif kd Gq l then some (2:Int) else bif kd bSk l then some (0:Int) else some (-1:Int)):=by
   unfold f38 f38_j1
   show Ey (bif kd F6 l then some (kd F6 l) else bif kd Jg l then some (kd Jg l) else some (kd bBn l)) (fun z1=>bif z1 then some (1:Int) else bif kd Gq l then some (2:Int) else bif kd bSk l then some (0:Int) else some (-1:Int))=_
   cases kd F6 l <;> cases kd Jg l <;> rfl
  rw [e]
 have wi:∀ x m:Int,(Ey (f60 x m) fun r=>some r)=some (decide (1≤x∧x≤m)):=fun x m=>by rw [within_ok,Bh]
 unfold f59 lok
 show Ey (f59_j1 l) (fun z2=>Fx z2 (fun _=>bif kd F6 l then Ey (f60 l.2.1 256) fun r4=>some r4 else bif kd Gq l then Ey (f60 l.2.1 16) fun r5=>bif r5 then Ey (f60 l.2.2 16) fun r6=>some r6 else some false
  else bif kd Jg l then Ey (f60 l.2.1 16) fun r7=>some r7 else bif kd bBn l then Ey (f60 l.2.1 5) fun r8=>some r8 else bif kd bSk l then some (l.2.1==(0:Int)) else some false) (fun _=>some false))=_
 rw [wi,wi,wi,wi,within_ok,Bh]
 cases h1:kd F6 l
 ·cases h2:kd Gq l
  ·cases h3:kd Jg l
   ·cases h4:kd bBn l
    ·cases h5:kd bSk l
     ·rw [good_lo ((cnt (-1)).2 (by rw [h1,h2,h3,h4,h5];rfl)) (by omega),Bh,sum_b]
      cases decide (l.2.2=0) <;> rfl
     ·rw [good_lo ((cnt 0).2 (by rw [h1,h2,h3,h4,h5];rfl)) (by omega),Bh,sum_b]
      exact swap_d
    ·rw [good_lo ((cnt 1).2 (by rw [h1,h3,h4];rfl)) (by omega),Bh,sum_b]
     exact swap_d
   ·rw [good_lo ((cnt 1).2 (by rw [h1,h3];rfl)) (by omega),Bh,sum_b]
    exact swap_d
  ·have h3:=kd_ne h2 (b:=Jg) (by kernel_rfl)
   have h4:=kd_ne h2 (b:=bBn) (by kernel_rfl)
   have e:f59_j1 l=some (Sum.inl ()):=by
    unfold f59_j1
    rw [(cnt 2).2 (by rw [h1,h2,h3,h4];rfl),Bh,dF,cond_false]
   rw [e,Bh,Fu]
   exact bifd
 ·rw [good_lo ((cnt 1).2 (by rw [h1];rfl)) (by omega),Bh,sum_b]
  exact swap_d
theorem goodP (n:Nt) (hN:n.2.length≤40):f34 n=some (gok n):=by
 unfold f34 gok fbad
 have LL:=loop_find (B:=fun go x=>f34_l1 n go x) (fun k=>(k:Int)) (fun i=>!lok (ly n i)) (fun _=>Sum.inl ()) (Sum.inr ()) n.2.length ?_ ?_ ?_ (by omega)
 ·have L':Fq (fun go x=>f34_l1 n go x) Fv (0:Int)=_:=LL
  rw [L',Bh]
  cases Ks (fun i=>!lok (ly n i)) 0 n.2.length
  ·show (bif ((List.length n.1:Int)==(1:Int)) then _ else _)=some (iok n.1)
   unfold iok
   by_cases e1:n.1.length=1
   ·rw [bT (by omega),cond_true,D4,within_ok,Bh,dT e1,cond_true]
   ·rw [bF (by omega),cond_false,dF e1,cond_false]
    by_cases e2:n.1.length=2
    ·rw [bT (by omega),cond_true,D4,within_ok,Bh,D4,within_ok,Bh,dT e2,cond_true]
     exact bifd
    ·rw [bF (by omega),cond_false,dF e2];rfl
  ·rfl
 ·intro k hk hp go
  have eb2:f59 ((rd (Ty.z (.p .str (.p (.int .i64) (.int .i64)))) n.2 (k:Int)).1,((rd (Ty.z (.p .str (.p (.int .i64) (.int .i64)))) n.2 (k:Int)).2).1,((rd (Ty.z (.p .str (.p (.int .i64) (.int .i64)))) n.2 (k:Int)).2).2)=some (lok (ly n k)):=lgoodP (ly n k)
  unfold f34_l1
  rw [dT,cond_true,D4,eb2,Bh,hp,cond_false,G1 k]
 ·intro k hk hp go
  have eb2:f59 ((rd (Ty.z (.p .str (.p (.int .i64) (.int .i64)))) n.2 (k:Int)).1,((rd (Ty.z (.p .str (.p (.int .i64) (.int .i64)))) n.2 (k:Int)).2).1,((rd (Ty.z (.p .str (.p (.int .i64) (.int .i64)))) n.2 (k:Int)).2).2)=some (lok (ly n k)):=lgoodP (ly n k)
  unfold f34_l1
  rw [dT,cond_true,D4,eb2,Bh,hp,cond_true]
 ·intro go
  unfold f34_l1
  rw [dF,cond_false]
theorem lp0 {X Z:Type} {B:(X→Option Z)→X→Option Z} {x0:X} {z:Z} (h:∀ go,B go x0=some z):Fq B Fv x0=some z:=
 F2 (fun _=>x0) 0 z (fun k hk=>absurd hk (Nat.not_lt_zero _)) h (by omega)
theorem lp1 {X Z:Type} {B:(X→Option Z)→X→Option Z} {x0 x1:X} {z:Z} (h0:∀ go,B go x0=go x1) (h1:∀ go,B go x1=some z):Fq B Fv x0=some z:=
 F2 (fun k=>match k with | 0=>x0 | _=>x1) 1 z (fun k hk=>match k,hk with | 0,_=>h0) h1 (by omega)
theorem lp2 {X Z:Type} {B:(X→Option Z)→X→Option Z} {x0 x1 x2:X} {z:Z} (h0:∀ go,B go x0=go x1) (h1:∀ go,B go x1=go x2) (h2:∀ go,B go x2=some z):Fq B Fv x0=some z:=
 F2 (fun k=>match k with | 0=>x0 | 1=>x1 | _=>x2) 2 z (fun k hk=>match k,hk with | 0,_=>h0 | 1,_=>h1) h2 (by omega)
theorem mprod {d:List Int} (h1:∀ x ∈ d,1≤x) (hb:Fp d≤4000000000000) (hl:d.length≤10):f42 d=some (Fp d):=by
 unfold f42
 have L:=F2 (B:=fun go (x:Int×Int)=>f42_l1 d go x.1 x.2) (fun k=>(Fp (d.take k),(k:Int))) d.length (Fp d) ?_ ?_ (by omega)
 ·have L':Fq (fun go (x:Int×Int)=>f42_l1 d go x.1 x.2) Fv ((1:Int),(0:Int))=_:=L
  rw [L'];rfl
 ·intro k hk go
  obtain ⟨p1,p2⟩:=prodL_le h1 (k+1)
  unfold f42_l1
  simp only
  rw [dT,cond_true,D4,G1 k,← J3 k hk,Fl]
 ·intro go
  unfold f42_l1
  simp only
  rw [dF,cond_false,List.take_length]
theorem rpro {d:List Int} (h1:∀ x ∈ d,1≤x) (hb:Fp d≤4000000000000) (hl:d.length≤10):f40 d=some (Fp d):=by
 unfold f40
 have L:=F2 (B:=fun go (x:Int×Int)=>f40_l1 d go x.1 x.2) (fun k=>(Fp (d.take k),(k:Int))) d.length (Fp d) ?_ ?_ (by omega)
 ·have L':Fq (fun go (x:Int×Int)=>f40_l1 d go x.1 x.2) Fv ((1:Int),(0:Int))=_:=L
  rw [L'];rfl
 ·intro k hk go
  obtain ⟨p1,p2⟩:=prodL_le h1 (k+1)
  unfold f40_l1
  simp only
  rw [dT,cond_true,D4,G1 k,← J3 k hk,Fl]
 ·intro go
  unfold f40_l1
  simp only
  rw [dF,cond_false,List.take_length]
theorem mem_prodL:∀ d:List Int,(∀ x ∈ d,1≤x)→∀ x ∈ d,x≤Fp d
 | [],_,x,hx=>absurd hx (by simp)
 | y::r,h,x,hx=>by
  have hr:∀ z ∈ r,1≤z:=fun z hz=>h z (List.mem_cons_of_mem _ hz)
  have hp:=Gu r hr
  have hy:=h y (by simp)
  simp only [Fp]
  rcases List.mem_cons.1 hx with rfl | hx
  ·have:=Int.mul_le_mul (Int.le_refl x) hp (by omega) (by omega);omega
  ·have h1:=mem_prodL r hr x hx
   have h2:=Int.mul_le_mul hy (Int.le_refl (Fp r)) (by omega) (by omega)
   omega
theorem good_iff {d:List Int} (h1:∀ x ∈ d,1≤x) (hl:d.length≤4):f65 d=some (decide (Fp d≤4096)):=by
 rw [Gw]
 congr 1
 rw [decide_eq_decide]
 constructor
 ·intro h
  have:=Gs h
  have:=F5 d
  omega
 ·intro h
  have e:prd d=1*Fp d:=by
   unfold prd
   rw [iNo]
   exact pgo_of d 1 (by omega) (fun x hx=>⟨h1 x hx,by have:=mem_prodL d h1 x hx;omega⟩) (by omega)
  have:=Gu d h1
  omega
theorem dd_prod {d:List Int} (h:DD d):1≤Fp d∧Fp d≤1048576:=by
 obtain ⟨hl,h⟩:=h
 match d,hl with
 | [],_=>exact ⟨by decide,by decide⟩
 | [a],_=>
  have:=h a (by simp)
  simp only [Fp];omega
 | [a,b],_=>
  have ha:=h a (by simp)
  have hb:=h b (by simp)
  obtain ⟨m1,m2⟩:=Km ha.1 ha.2 hb.1 hb.2
  simp only [Fp,Int.mul_one];omega
theorem Ke {d:List Int} (h:DD d):∀ x ∈ d,1≤x:=fun x hx=>(h.2 x hx).1
def nx (n:Nt) (k:Nat) (d:List (List Int)):Option (List Int):=
 bif kd F6 (ly n k) then some [(ly n k).2.1]
 else bif kd Gq (ly n k) then (if (dm d k).length=2∧(ly n k).2.2≤rd (0:Int) (dm d k) 1 then some [(ly n k).2.1,rd (0:Int) (dm d k) 1-(ly n k).2.2+1] else none)
 else bif kd Jg (ly n k) then (if (dm d k).length=2∧(ly n k).2.1≤rd (0:Int) (dm d k) 1 then some [rd (0:Int) (dm d k) 0,rd (0:Int) (dm d k) 1/(ly n k).2.1] else none)
 else bif kd bSk (ly n k) then (if 0<k∧kd bSk (ly n (k-1))=false∧dm d (k-1)=dm d k then some (dm d k) else none)
 else some (dm d k)
def wk (n:Nt):Nat→Option (List (List Int))
 | 0=>some [n.1]
 | k+1=>match wk n k with
  | none=>none
  | some d=>match nx n k d with
   | none=>none
   | some o=>some (d++[o])
def pc (l:Lay) (e:List Int):Int:=bif kd F6 l then l.2.1*Fp e else bif kd Gq l then l.2.1*rd (0:Int) e 0*l.2.2 else 0
def pt (l:Lay) (e:List Int):Int:=bif kd F6 l then l.2.1*Fp e+l.2.1 else bif kd Gq l then l.2.1*rd (0:Int) e 0*l.2.2 else 0
theorem lokD {l:Lay} (h:lok l=true) (hk:kd F6 l=true):1≤l.2.1∧l.2.1≤256:=by
 unfold lok at h;rw [hk,cond_true] at h;exact (of_decide_eq_true h).1
theorem lokC {l:Lay} (h:lok l=true) (hk:kd Gq l=true):(1≤l.2.1∧l.2.1≤16)∧1≤l.2.2∧l.2.2≤16:=by
 unfold lok at h;rw [kd_ne hk (b:=F6) (by kernel_rfl),hk,cond_true,cond_false] at h;exact of_decide_eq_true h
theorem lokP {l:Lay} (h:lok l=true) (hk:kd Jg l=true):1≤l.2.1∧l.2.1≤16:=by
 unfold lok at h;rw [kd_ne hk (b:=F6) (by kernel_rfl),kd_ne hk (b:=Gq) (by kernel_rfl),hk,cond_true,cond_false,cond_false] at h;exact (of_decide_eq_true h).1
structure WS (n:Nt) (k:Nat) (d:List (List Int)):Prop where
 wL:d.length=k+1
 wD:∀ i,i≤k→DD (dm d i)
 w0:dm d 0=n.1
theorem Jq {n:Nt} (h:gok n=true):DD n.1∧∀ i,i<n.2.length→lok (ly n i)=true:=by
 unfold gok at h
 cases hf:fbad n with
 | some i=>rw [hf] at h;exact absurd h (by simp)
 | none=>
  rw [hf] at h
  have h:iok n.1=true:=h
  refine ⟨?_,fun i hi=>?_⟩
  ·unfold iok at h
   by_cases e1:n.1.length=1
   ·rw [dT e1,cond_true] at h
    have h:=of_decide_eq_true h
    match n.1,e1,h with
    | [x],_,h=>exact ⟨by simp,fun y hy=>by rw [List.mem_singleton.1 hy];exact h⟩
   ·rw [dF e1,cond_false] at h
    by_cases e2:n.1.length=2
    ·rw [dT e2,cond_true] at h
     have h:=of_decide_eq_true h
     match n.1,e2,h with
     | [x,y],_,h=>
      have hx:1≤x∧x≤64:=h.1
      have hy:1≤y∧y≤64:=h.2
      refine ⟨by simp,fun z hz=>?_⟩
      rcases List.mem_cons.1 hz with rfl | hz
      ·omega
      ·rw [List.mem_singleton.1 hz];omega
    ·rw [dF e2] at h;exact absurd h (by simp)
  ·have:=(firstB_none (fun i=>!lok (ly n i)) n.2.length 0).1 hf i (Nat.zero_le _) (by omega)
   simpa using this
theorem nx_dd {n:Nt} {k:Nat} {d:List (List Int)} {o:List Int} (hl:lok (ly n k)=true) (D:DD (dm d k)) (h:nx n k d=some o):DD o:=by
 unfold nx at h
 cases h1:kd F6 (ly n k)
 ·rw [h1,cond_false] at h
  cases h2:kd Gq (ly n k)
  ·rw [h2,cond_false] at h
   cases h3:kd Jg (ly n k)
   ·rw [h3,cond_false] at h
    cases h4:kd bSk (ly n k)
    ·rw [h4,cond_false] at h;injection h with h;subst h;exact D
    ·rw [h4,cond_true] at h
     split at h
     ·injection h with h;subst h;exact D
     ·exact absurd h (by simp)
   ·rw [h3,cond_true] at h
    split at h
    ·rename_i hc
     injection h with h;subst h
     obtain ⟨p1,p2⟩:=lokP hl h3
     obtain ⟨b0,b1⟩:=dd_rd D 0 (by omega)
     obtain ⟨c0,c1⟩:=dd_rd D 1 (by omega)
     have c0':1≤rd (0:Int) (dm d k) 1:=c0
     have c1':rd (0:Int) (dm d k) 1≤1024:=c1
     refine ⟨Nat.le_refl 2,fun y hy=>?_⟩
     rcases List.mem_cons.1 hy with rfl | hy
     ·exact ⟨b0,b1⟩
     ·rw [List.mem_singleton.1 hy]
      have hc2:=hc.2
      generalize (ly n k).2.1=A at *
      generalize rd (0:Int) (dm d k) 1=X at *
      exact ⟨(Int.le_ediv_iff_mul_le (by omega)).2 (by omega),by have:X/A≤X:=Int.ediv_le_self _ (by omega);omega⟩
    ·exact absurd h (by simp)
  ·rw [h2,cond_true] at h
   split at h
   ·rename_i hc
    injection h with h;subst h
    obtain ⟨⟨p1,p2⟩,p3,p4⟩:=lokC hl h2
    obtain ⟨c0,c1⟩:=dd_rd D 1 (by omega)
    have c0':1≤rd (0:Int) (dm d k) 1:=c0
    have c1':rd (0:Int) (dm d k) 1≤1024:=c1
    refine ⟨Nat.le_refl 2,fun y hy=>?_⟩
    rcases List.mem_cons.1 hy with rfl | hy
    ·omega
    ·rw [List.mem_singleton.1 hy];omega
   ·exact absurd h (by simp)
 ·rw [h1,cond_true] at h
  injection h with h;subst h
  have:=lokD hl h1
  exact ⟨by simp,fun y hy=>by rw [List.mem_singleton.1 hy];omega⟩
theorem wk_ws {n:Nt} (hg:gok n=true):∀ (k:Nat) (d:List (List Int)),k≤n.2.length→wk n k=some d→WS n k d
 | 0,d,_,h=>by
  injection h with h;subst h
  exact ⟨rfl,fun i hi=>by
   obtain rfl:i=0:=by omega
   exact (Jq hg).1,rfl⟩
 | k+1,d,hk,h=>by
  simp only [wk] at h
  cases hw:wk n k with
  | none=>rw [hw] at h;exact absurd h (by simp)
  | some d0=>
   rw [hw] at h
   simp only at h
   have W:=wk_ws hg k d0 (by omega) hw
   cases hn:nx n k d0 with
   | none=>rw [hn] at h;exact absurd h (by simp)
   | some o=>
    rw [hn] at h
    injection h with h;subst h
    have hL:=W.wL
    refine ⟨by simp [hL],fun i hi=>?_,by rw [dm_app _ _ _ (by omega)];exact W.w0⟩
    by_cases e:i<d0.length
    ·rw [dm_app _ _ _ e];exact W.wD i (by omega)
    ·obtain rfl:i=d0.length:=by omega
     rw [dm_last];exact nx_dd ((Jq hg).2 k (by omega)) (W.wD k (Nat.le_refl _)) hn
theorem wk_stop {n:Nt} {k:Nat} (h:wk n k=none):∀ m,k≤m→wk n m=none
 | 0,hm=>by
  obtain rfl:k=0:=by omega
  exact h
 | m+1,hm=>by
  by_cases e:k=m+1
  ·rw [← e];exact h
  ·simp only [wk];rw [wk_stop h m (by omega)]
theorem pc_in {l:Lay} {e:List Int} (hl:lok l=true) (D:DD e) (hc:kd Gq l=true→e.length=2):0≤pc l e∧pc l e≤268435456∧0≤pt l e∧pt l e≤268435712:=by
 unfold pc pt
 obtain ⟨q1,q2⟩:=dd_prod D
 cases h1:kd F6 l
 ·simp only [cond_false]
  cases h2:kd Gq l
  ·simp only [cond_false];omega
  ·simp only [cond_true]
   obtain ⟨⟨p1,p2⟩,p3,p4⟩:=lokC hl h2
   have:=hc h2
   obtain ⟨b0,b1⟩:=dd_rd D 0 (by omega)
   have b0':1≤rd (0:Int) e 0:=b0
   have b1':rd (0:Int) e 0≤1024:=b1
   obtain ⟨m1,m2⟩:=Km p1 p2 b0' b1'
   obtain ⟨m3,m4⟩:=Km m1 m2 p3 p4
   omega
 ·simp only [cond_true]
  obtain ⟨p1,p2⟩:=lokD hl h1
  obtain ⟨m1,m2⟩:=Km p1 p2 q1 q2
  omega
section
variable {n:Nt} {k:Nat} {d:List (List Int)} (W:WS n k d) (hk:k<n.2.length) (hN:n.2.length≤40) (hl:lok (ly n k)=true)
include W hk hN
theorem skipsP:f63 n (k:Int) d=some (decide (0<k∧kd bSk (ly n (k-1))=false∧dm d (k-1)=dm d k)):=by
 have hL:=W.wL
 unfold f63
 by_cases h:(k:Int)>0
 ·have e1:IntKind.i64.wrap ((k:Int)-1)=((k-1:Nat):Int):=by rw [Fl];omega
  rw [dT h,cond_true,e1,D4]
  show (bif !(kd bSk (ly n (k-1))) then _ else _)=_
  cases hs:kd bSk (ly n (k-1))
  ·have hq:(rd (Ty.z (.sl (.int .i64))) d ((k-1:Nat):Int)).length≤2:=(W.wD (k-1) (by omega)).1
   rw [Bool.not_false,cond_true,D4,D4,sameP _ _ (Nat.lt_of_le_of_lt hq (by decide)),Bh]
   congr 1
   rw [decide_eq_decide]
   exact ⟨fun hh=>⟨by omega,rfl,hh⟩,fun hh=>hh.2.2⟩
  ·rw [Bool.not_true,cond_false,dF (fun hh=>absurd hh.2.1 (by decide))]
 ·rw [dF h,cond_false,dF (fun hh=>h (by omega))]
include hl
theorem stepP:∃ q:Bool×List Int,f62 (ly n k) (dm d k)=some q∧f35_j4 n (k:Int) d q=some (match nx n k d with | none=>Sum.inr () | some _=>Sum.inl ())∧(∀ o,nx n k d=some o→q.2=o):=by
 have D:=W.wD k (Nat.le_refl _)
 have hD:=D.1
 have hs:=skipsP W hk hN
 have hs2:f63 (n.1,n.2) (k:Int) d=_:=hs
 have j4:∀ q:Bool×List Int,f35_j4 n (k:Int) d q=bif !q.1 then some (Sum.inr ()) else bif kd bSk (ly n k) then (bif !(decide (0<k∧kd bSk (ly n (k-1))=false∧dm d (k-1)=dm d k)) then some (Sum.inr ()) else some (Sum.inl ())) else some (Sum.inl ()):=fun q=>by
  unfold f35_j4
  rw [hs2,Bh];rfl
 unfold f62 nx
 show ∃ q,(bif kd F6 (ly n k) then _ else bif kd Gq (ly n k) then _ else bif kd Jg (ly n k) then _ else _)=some q∧_
 cases h1:kd F6 (ly n k)
 ·rw [cond_false,cond_false]
  cases h2:kd Gq (ly n k)
  ·rw [cond_false,cond_false]
   cases h3:kd Jg (ly n k)
   ·rw [cond_false,cond_false,cloneS _ (by omega),Bh]
    refine ⟨_,rfl,?_,?_⟩
    ·rw [j4]
     cases h4:kd bSk (ly n k)
     ·rfl
     ·simp only [Bool.not_true,cond_false,cond_true]
      by_cases hc:0<k∧kd bSk (ly n (k-1))=false∧dm d (k-1)=dm d k
      ·rw [dT hc,if_pos hc];rfl
      ·rw [dF hc,if_neg hc];rfl
    ·intro o ho
     cases h4:kd bSk (ly n k)
     ·rw [h4,cond_false] at ho;injection ho
     ·rw [h4,cond_true] at ho
      split at ho
      ·injection ho
      ·exact absurd ho (by simp)
   ·rw [cond_true,cond_true]
    have h4:=kd_ne h3 (b:=bSk) (by kernel_rfl)
    obtain ⟨p1,p2⟩:=lokP hl h3
    unfold f62_j2
    by_cases e2:(dm d k).length=2
    ·by_cases hc:(ly n k).2.1≤rd (0:Int) (dm d k) 1
     ·obtain ⟨c0,c1⟩:=dd_rd D 1 (by omega)
      have c0':1≤rd (0:Int) (dm d k) 1:=c0
      have c1':rd (0:Int) (dm d k) 1≤1024:=c1
      have q2:rd (0:Int) (dm d k) 1/(ly n k).2.1≤rd (0:Int) (dm d k) 1:=Int.ediv_le_self _ (by omega)
      have q1:0≤rd (0:Int) (dm d k) 1/(ly n k).2.1:=Int.ediv_nonneg (by omega) (by omega)
      rw [nF,cond_false,D4,dF,cond_false,Bh,Fu,D4,D4,D4,if_pos ⟨e2,hc⟩,Int.tdiv_eq_ediv_of_nonneg (by omega),Fl]
      refine ⟨_,rfl,?_,fun o ho=>?_⟩
      ·rw [j4,h4];rfl
      ·injection ho
     ·rw [nF,cond_false,D4,dT,cond_true,Bh,F4,if_neg (fun hh=>hc hh.2)]
      refine ⟨_,rfl,?_,fun o ho=>absurd ho (by simp)⟩
      rw [j4];rfl
    ·rw [nT,cond_true,Bh,F4,if_neg (fun hh=>e2 hh.1)]
     refine ⟨_,rfl,?_,fun o ho=>absurd ho (by simp)⟩
     rw [j4];rfl
  ·rw [cond_true,cond_true]
   have h4:=kd_ne h2 (b:=bSk) (by kernel_rfl)
   obtain ⟨⟨p1,p2⟩,p3,p4⟩:=lokC hl h2
   unfold f62_j1
   by_cases e2:(dm d k).length=2
   ·by_cases hc:(ly n k).2.2≤rd (0:Int) (dm d k) 1
    ·obtain ⟨c0,c1⟩:=dd_rd D 1 (by omega)
     have c0':1≤rd (0:Int) (dm d k) 1:=c0
     have c1':rd (0:Int) (dm d k) 1≤1024:=c1
     rw [nF,cond_false,D4,dF,cond_false,Bh,Fu,D4,if_pos ⟨e2,hc⟩,Fl (n:=rd (0:Int) (dm d k) 1-(ly n k).2.2) (by omega) (by omega),Fl]
     refine ⟨_,rfl,?_,fun o ho=>?_⟩
     ·rw [j4,h4];rfl
     ·injection ho
    ·rw [nF,cond_false,D4,dT,cond_true,Bh,F4,if_neg (fun hh=>hc hh.2)]
     refine ⟨_,rfl,?_,fun o ho=>absurd ho (by simp)⟩
     rw [j4];rfl
   ·rw [nT,cond_true,Bh,F4,if_neg (fun hh=>e2 hh.1)]
    refine ⟨_,rfl,?_,fun o ho=>absurd ho (by simp)⟩
    rw [j4];rfl
 ·have h4:=kd_ne h1 (b:=bSk) (by kernel_rfl)
  rw [cond_true,cond_true]
  refine ⟨_,rfl,?_,fun o ho=>?_⟩
  ·rw [j4,h4];rfl
  ·injection ho
end
theorem walkP (n:Nt) (hN:n.2.length≤40) (hg:gok n=true):f35 n=some (match wk n n.2.length with | none=>(false,[]) | some d=>(true,d)):=by
 obtain ⟨i1,i2⟩:=(Jq hg).1
 unfold f35
 rw [cloneS n.1 (by omega),Bh]
 have LL:=Gd (B:=fun go (x:Int×List (List Int))=>f35_l3 n go x.1 x.2) (fun x=>∃ k:Nat,k≤n.2.length∧x.1=(k:Int)∧wk n k=some x.2) (fun x=>n.2.length-x.1.toNat)
  (fun z=>z=match wk n n.2.length with | none=>Sum.inl () | some d=>Sum.inr d) ?_ ((0:Int),[n.1]) ⟨0,by omega,rfl,rfl⟩ (by simp only;omega)
 ·obtain ⟨z,ez,hz⟩:=LL
  rw [ez,Bh,hz]
  cases wk n n.2.length <;> rfl
 ·rintro ⟨_,d⟩ ⟨k,hk,rfl,hd⟩
  simp only at hd
  have W:=wk_ws hg k d hk hd
  have hL:=W.wL
  by_cases h:k<n.2.length
  ·obtain ⟨q,eo,ej,hq⟩:=stepP W h hN ((Jq hg).2 k h)
   have eo2:f62 ((rd (Ty.z (.p .str (.p (.int .i64) (.int .i64)))) n.2 (k:Int)).1,((rd (Ty.z (.p .str (.p (.int .i64) (.int .i64)))) n.2 (k:Int)).2).1,((rd (Ty.z (.p .str (.p (.int .i64) (.int .i64)))) n.2 (k:Int)).2).2) (rd (Ty.z (.sl (.int .i64))) d (k:Int))=some q:=eo
   cases hn:nx n k d with
   | none=>
    have hs:wk n (k+1)=none:=by simp only [wk];rw [hd];simp only;rw [hn]
    rw [hn] at ej
    refine .inl ⟨Sum.inl (),fun go=>?_,by rw [wk_stop hs _ h]⟩
    unfold f35_l3
    simp only
    rw [dT,cond_true,D4,D4,eo2,Bh,ej,Bh,F4]
   | some o=>
    rw [hn] at ej
    have hq2:=hq o hn
    have g3:(List.length d+List.length [q.2])*24≤140737488355328:=by simp only [List.length_cons,List.length_nil];omega
    refine .inr ⟨(((k+1:Nat):Int),d++[o]),fun go=>?_,⟨k+1,h,rfl,by simp only [wk];rw [hd];simp only;rw [hn]⟩,by simp only [Int.toNat_natCast];omega⟩
    unfold f35_l3
    simp only
    rw [dT,cond_true,D4,D4,eo2,Bh,ej,Bh,Fu,D4 g3,G1 k,hq2]
  ·obtain rfl:k=n.2.length:=by omega
   refine .inl ⟨Sum.inr d,fun go=>?_,by rw [hd]⟩
   unfold f35_l3
   simp only
   rw [dF,cond_false]
def mny (n:Nt) (d:List (List Int)):Nat→Int
 | 0=>0
 | k+1=>mny n d k+pt (ly n k) (dm d k)
def gr (n:Nt) (d:List (List Int)):Nat→Bool
 | 0=>decide ((n.2.length:Int)>16)
 | k+1=>gr n d k||decide (pc (ly n k) (dm d k)>4096)||decide (Fp (dm d (k+1))>4096)
def okf (n:Nt) (d:List (List Int)):Nat→Bool
 | 0=>decide ((n.2.length:Int)≤16)
 | k+1=>okf n d k&&!decide (pc (ly n k) (dm d k)>4096)&&decide (Fp (dm d k)≤4096)&&decide (Fp (dm d (k+1))≤4096)
def bad (n:Nt) (d:List (List Int)):Bool:=gr n d n.2.length||decide (mny n d n.2.length>4096)||decide (Fp n.1>4096)
theorem mny_ext {n:Nt} {d d':List (List Int)}:∀ k,(∀ i,i<k→dm d i=dm d' i)→mny n d k=mny n d' k
 | 0,_=>rfl
 | k+1,h=>by simp only [mny];rw [mny_ext k (fun i hi=>h i (by omega)),h k (by omega)]
theorem gr_ext {n:Nt} {d d':List (List Int)}:∀ k,(∀ i,i≤k→dm d i=dm d' i)→gr n d k=gr n d' k
 | 0,_=>rfl
 | k+1,h=>by simp only [gr];rw [gr_ext k (fun i hi=>h i (by omega)),h k (by omega),h (k+1) (by omega)]
structure WF (n:Nt) (k:Nat) (d:List (List Int)):Prop extends WS n k d where
 fC:∀ i,i<k→kd Gq (ly n i)=true→(dm d i).length=2
theorem nx_conv {n:Nt} {k:Nat} {d:List (List Int)} {o:List Int} (h:nx n k d=some o) (hc:kd Gq (ly n k)=true):(dm d k).length=2:=by
 unfold nx at h
 rw [kd_ne hc (b:=F6) (by kernel_rfl),hc,cond_true,cond_false] at h
 split at h
 ·rename_i hh;exact hh.1
 ·exact absurd h (by simp)
theorem wk_wf {n:Nt} (hg:gok n=true):∀ (k:Nat) (d:List (List Int)),k≤n.2.length→wk n k=some d→WF n k d
 | 0,d,hk,h=>⟨wk_ws hg 0 d hk h,fun i hi=>absurd hi (Nat.not_lt_zero _)⟩
 | k+1,d,hk,h=>by
  have W:=wk_ws hg (k+1) d hk h
  simp only [wk] at h
  cases hw:wk n k with
  | none=>rw [hw] at h;exact absurd h (by simp)
  | some d0=>
   rw [hw] at h
   simp only at h
   have W0:=wk_wf hg k d0 (by omega) hw
   have hL:=W0.wL
   cases hn:nx n k d0 with
   | none=>rw [hn] at h;exact absurd h (by simp)
   | some o=>
    rw [hn] at h
    injection h with h;subst h
    refine ⟨W,fun i hi hc=>?_⟩
    rw [dm_app _ _ _ (by omega)]
    by_cases e:i=k
    ·subst e;exact nx_conv hn hc
    ·exact W0.fC i (by omega) hc
section
variable {n:Nt} {d:List (List Int)} (hg:gok n=true) (hN:n.2.length≤40) (W:WF n n.2.length d)
include hg hN W
theorem mny_in:∀ k,k≤n.2.length→0≤mny n d k∧mny n d k≤k*268435712
 | 0,_=>by simp [mny]
 | k+1,h=>by
  have:=mny_in k (by omega)
  have:=pc_in ((Jq hg).2 k (by omega)) (W.wD k (by omega)) (W.fC k (by omega))
  simp only [mny]
  omega
theorem okf_gr:∀ k,k≤n.2.length→Fp n.1≤4096→okf n d k = !gr n d k
 | 0,_,_=>by
  simp only [okf,gr]
  by_cases h:(n.2.length:Int)≤16
  ·rw [dT h,dF];rfl
  ·rw [dF h,dT];rfl
 | k+1,hk,h0=>by
  have ih:=okf_gr k (by omega) h0
  simp only [okf,gr]
  rw [ih]
  have hd:gr n d k=false→Fp (dm d k)≤4096:=fun hh=>by
   match k with
   | 0=>rw [W.w0];exact h0
   | k+1=>
    simp only [gr,Bool.or_eq_false_iff,decide_eq_false_iff_not] at hh
    omega
  cases hgk:gr n d k
  ·rw [dT (hd hgk)]
   by_cases h1:pc (ly n k) (dm d k)>4096
   ·rw [dT h1];rfl
   ·rw [dF h1]
    by_cases h2:Fp (dm d (k+1))≤4096
    ·rw [dT h2,dF];rfl
    ·rw [dF h2,dT];rfl
  ·rfl
theorem innerP (k:Nat) (hk:k<n.2.length) (m:Int) (hm:0≤m∧m≤100000000000) (ok:Bool) :
  ∃ ps,f64 (ly n k) (dm d k)=some ps∧
  Fq (fun go (x:Int×Bool×Int)=>f36_l4 ps go x.1 x.2.1 x.2.2) Fv (m,ok,(0:Int))=some (m+pt (ly n k) (dm d k),ok&&!decide (pc (ly n k) (dm d k)>4096)):=by
 have hl:=(Jq hg).2 k hk
 have D:=W.wD k (by omega)
 obtain ⟨q1,q2⟩:=dd_prod D
 have mp:f42 (dm d k)=some (Fp (dm d k)):=mprod (Ke D) (by omega) (by have:=D.1;omega)
 have w0:IntKind.i64.wrap ((0:Int)+1)=1:=by kernel_rfl
 have w1:IntKind.i64.wrap ((1:Int)+1)=2:=by kernel_rfl
 unfold f64 pt pc
 show ∃ ps,(bif kd F6 (ly n k) then _ else bif kd Gq (ly n k) then _ else _)=some ps∧_
 cases h1:kd F6 (ly n k)
 ·simp only [cond_false]
  cases h2:kd Gq (ly n k)
  ·simp only [cond_false]
   refine ⟨[],rfl,lp0 (fun go=>?_)⟩
   unfold f36_l4
   simp only [List.length_nil]
   rw [dF,cond_false,Int.add_zero,dF,Bool.not_false,Bool.and_true]
  ·simp only [cond_true]
   obtain ⟨⟨p1,p2⟩,p3,p4⟩:=lokC hl h2
   have h2l:=W.fC k hk h2
   obtain ⟨b0,b1⟩:=dd_rd D 0 (by omega)
   have b0':1≤rd (0:Int) (dm d k) 0:=b0
   have b1':rd (0:Int) (dm d k) 0≤1024:=b1
   obtain ⟨m1,m2⟩:=Km p1 p2 b0' b1'
   obtain ⟨m3,m4⟩:=Km m1 m2 p3 p4
   have hp:∀ x ∈ [(ly n k).2.1,rd (0:Int) (dm d k) 0,(ly n k).2.2],1≤x:=fun x hx=>by
    simp only [List.mem_cons,List.mem_nil_iff,or_false] at hx
    rcases hx with rfl | rfl | rfl <;> omega
   have ep:Fp [(ly n k).2.1,rd (0:Int) (dm d k) 0,(ly n k).2.2]=(ly n k).2.1*rd (0:Int) (dm d k) 0*(ly n k).2.2:=by simp only [Fp,Int.mul_one];rw [Int.mul_assoc]
   have e1:=mprod hp (by rw [ep];omega) (by simp)
   have e2:=good_iff hp (by simp)
   rw [ep] at e1 e2
   rw [D4]
   refine ⟨_,rfl,lp1 (x1:=(m+(ly n k).2.1*rd (0:Int) (dm d k) 0*(ly n k).2.2,ok&&!decide ((ly n k).2.1*rd (0:Int) (dm d k) 0*(ly n k).2.2>4096),(1:Int))) (fun go=>?_) (fun go=>?_)⟩
   ·have er:rd (Ty.z (.sl (.int .i64))) [[(ly n k).2.1,rd (0:Int) (dm d k) 0,(ly n k).2.2]] (0:Int)=[(ly n k).2.1,rd (0:Int) (dm d k) 0,(ly n k).2.2]:=rfl
    unfold f36_l4
    simp only
    rw [dT (by simp),cond_true,D4 (by simp),er,e1,Bh,e2,Bh,w0,Fl]
    have eb:decide ((ly n k).2.1*rd (0:Int) (dm d k) 0*(ly n k).2.2≤4096) = !decide ((ly n k).2.1*rd (0:Int) (dm d k) 0*(ly n k).2.2>4096):=by
     by_cases hh:(ly n k).2.1*rd (0:Int) (dm d k) 0*(ly n k).2.2≤4096
     ·rw [dT hh,dF];rfl
     ·rw [dF hh,dT];rfl
    rw [eb]
    cases ok <;> rfl
   ·unfold f36_l4
    simp only
    rw [dF (by simp),cond_false]
 ·simp only [cond_true]
  obtain ⟨p1,p2⟩:=lokD hl h1
  obtain ⟨m1,m2⟩:=Km p1 p2 q1 q2
  have hp:∀ x ∈ [(ly n k).2.1,Fp (dm d k)],1≤x:=fun x hx=>by
   simp only [List.mem_cons,List.mem_nil_iff,or_false] at hx
   rcases hx with rfl | rfl <;> omega
  have hp1:∀ x ∈ [(ly n k).2.1],1≤x:=fun x hx=>by rw [List.mem_singleton.1 hx];omega
  have ep:Fp [(ly n k).2.1,Fp (dm d k)]=(ly n k).2.1*Fp (dm d k):=by simp only [Fp,Int.mul_one]
  have ep1:Fp [(ly n k).2.1]=(ly n k).2.1:=by simp only [Fp,Int.mul_one]
  have e1:=mprod hp (by rw [ep];omega) (by simp)
  have e2:=good_iff hp (by simp)
  have e3:=mprod hp1 (by rw [ep1];omega) (by simp)
  have e4:=good_iff hp1 (by simp)
  rw [ep] at e1 e2
  rw [ep1] at e3 e4
  rw [dT] at e4
  rw [mp,Bh]
  refine ⟨_,rfl,lp2 (x1:=(m+(ly n k).2.1*Fp (dm d k),ok&&!decide ((ly n k).2.1*Fp (dm d k)>4096),(1:Int))) (x2:=(m+((ly n k).2.1*Fp (dm d k)+(ly n k).2.1),ok&&!decide ((ly n k).2.1*Fp (dm d k)>4096),(2:Int))) (fun go=>?_) (fun go=>?_) (fun go=>?_)⟩
  ·have er:rd (Ty.z (.sl (.int .i64))) [[(ly n k).2.1,Fp (dm d k)],[(ly n k).2.1]] (0:Int)=[(ly n k).2.1,Fp (dm d k)]:=rfl
   unfold f36_l4
   simp only
   rw [dT (by simp),cond_true,D4 (by simp),er,e1,Bh,e2,Bh,w0,Fl]
   have eb:decide ((ly n k).2.1*Fp (dm d k)≤4096) = !decide ((ly n k).2.1*Fp (dm d k)>4096):=by
    by_cases hh:(ly n k).2.1*Fp (dm d k)≤4096
    ·rw [dT hh,dF];rfl
    ·rw [dF hh,dT];rfl
   rw [eb]
   cases ok <;> rfl
  ·have er:rd (Ty.z (.sl (.int .i64))) [[(ly n k).2.1,Fp (dm d k)],[(ly n k).2.1]] (1:Int)=[(ly n k).2.1]:=rfl
   unfold f36_l4
   simp only
   rw [dT (by simp),cond_true,D4 (by simp),er,e3,Bh,e4,Bh,w1,Fl,Int.add_assoc]
   cases (ok&&!decide ((ly n k).2.1*Fp (dm d k)>4096)) <;> rfl
  ·unfold f36_l4
   simp only
   rw [dF (by simp),cond_false]
theorem sumP:f36 n d=some (mny n d n.2.length,!bad n d):=by
 have hL:=W.wL
 unfold f36
 have LL:=F2 (B:=fun go (x:Int×Bool×Int)=>f36_l3 n d go x.1 x.2.1 x.2.2) (fun k=>(mny n d k,okf n d k,(k:Int))) n.2.length (mny n d n.2.length,okf n d n.2.length) ?_ ?_ (by omega)
 ·have L':Fq (fun go (x:Int×Bool×Int)=>f36_l3 n d go x.1 x.2.1 x.2.2) Fv ((0:Int),(decide ((List.length n.2:Int)≤(16:Int))),(0:Int))=_:=LL
  have D:=(Jq hg).1
  rw [L',Bh]
  simp only
  rw [good_iff (Ke D) (by have:=D.1;omega),Bh]
  unfold bad
  by_cases h0:Fp n.1≤4096
  ·rw [dT h0,cond_true,okf_gr hg hN W _ (Nat.le_refl _) h0,dF (p:=Fp n.1>4096) (by omega)]
   by_cases hm:mny n d n.2.length≤4096
   ·rw [dT hm,dF]
    cases gr n d n.2.length <;> rfl
   ·rw [dF hm,dT]
    cases gr n d n.2.length <;> rfl
  ·rw [dF h0,cond_false,dT (p:=Fp n.1>4096) (by omega)]
   cases okf n d n.2.length <;> simp
 ·intro k hk go
  obtain ⟨s1,s2⟩:=mny_in hg hN W k (by omega)
  obtain ⟨ps,ep,el⟩:=innerP hg hN W k hk (mny n d k) ⟨s1,by omega⟩ (okf n d k)
  have ep2:f64 ((rd (Ty.z (.p .str (.p (.int .i64) (.int .i64)))) n.2 (k:Int)).1,((rd (Ty.z (.p .str (.p (.int .i64) (.int .i64)))) n.2 (k:Int)).2).1,((rd (Ty.z (.p .str (.p (.int .i64) (.int .i64)))) n.2 (k:Int)).2).2) (rd (Ty.z (.sl (.int .i64))) d (k:Int))=some ps:=ep
  have f1:f65 (rd (Ty.z (.sl (.int .i64))) d (k:Int))=some (decide (Fp (dm d k)≤4096)):=good_iff (d:=dm d k) (Ke (W.wD k (by omega))) (by have:=(W.wD k (by omega)).1;omega)
  have f2:f65 (rd (Ty.z (.sl (.int .i64))) d ((k+1:Nat):Int))=some (decide (Fp (dm d (k+1))≤4096)):=good_iff (d:=dm d (k+1)) (Ke (W.wD (k+1) (by omega))) (by have:=(W.wD (k+1) (by omega)).1;omega)
  unfold f36_l3
  simp only
  rw [dT,cond_true,D4,D4,ep2,Bh,el,Bh]
  simp only
  rw [D4,f1,Bh,G1 k,D4,f2,Bh]
  simp only [mny,okf]
  cases (okf n d k&&!decide (pc (ly n k) (dm d k)>4096))
  ·rfl
  ·rw [cond_true]
   cases decide (Fp (dm d k)≤4096) <;> rfl
 ·intro go
  unfold f36_l3
  simp only
  rw [dF,cond_false]
end
def shs (n:Nt):Int×Int×List (List Int):=
 bif gok n then (match wk n n.2.length with | none=>(4,0,[]) | some d=>bif bad n d then (2,0,[]) else (0,mny n d n.2.length,d)) else (1,0,[])
theorem shapesP (n:Nt) (hN:n.2.length≤40):f11 n=some ((shs n).1,(shs n).2.2)∧((shs n).1=0→gok n=true∧wk n n.2.length=some (shs n).2.2∧f36 n (shs n).2.2=some ((shs n).2.1,true)):=by
 unfold f11 shs
 have e1:f34 (n.1,n.2)=some (gok n):=goodP n hN
 rw [e1,Bh]
 cases hg:gok n
 ·exact ⟨rfl,fun h=>absurd h (by simp)⟩
 ·have e2:f35 (n.1,n.2)=_:=walkP n hN hg
  rw [Bool.not_true,cond_false,e2,Bh]
  cases hw:wk n n.2.length with
  | none=>exact ⟨rfl,fun h=>absurd h (by simp)⟩
  | some d=>
   have W:=wk_wf hg _ _ (Nat.le_refl _) hw
   have e3:f36 (n.1,n.2) d=some (mny n d n.2.length,!bad n d):=sumP hg hN W
   have e4:f36 n d=some (mny n d n.2.length,!bad n d):=e3
   simp only [Bool.not_true,cond_false]
   rw [e3,Bh]
   cases hb:bad n d
   ·refine ⟨rfl,fun _=>⟨by first | exact rfl | trivial,by first | exact rfl | exact hw,?_⟩⟩
    simp only [cond_false,cond_true]
    rw [e4,hb];rfl
   ·exact ⟨rfl,fun h=>absurd h (by simp)⟩
section
variable {n:Nt} {k:Nat} {d:List (List Int)} (W:WS n k d) (hk:k<n.2.length) (hN:n.2.length≤40) (hl:lok (ly n k)=true)
include W hk hN
theorem j62R:f15_j62 n (k:Int) d=some (!decide (0<k∧kd bSk (ly n (k-1))=false∧dm d (k-1)=dm d k)):=by
 have hL:=W.wL
 have e1:IntKind.i64.wrap ((List.length d:Int)-1)=(k:Int):=by rw [Fl];omega
 unfold f15_j62
 by_cases h:k=0
 ·subst h
  rw [bT (show ((0:Nat):Int)=0 from rfl),cond_true,dF];rfl
 ·have e2:IntKind.i64.wrap ((List.length d:Int)-2)=((k-1:Nat):Int):=by rw [Fl];omega
  have e3:IntKind.i64.wrap ((k:Int)-1)=((k-1:Nat):Int):=by rw [Fl];omega
  rw [bF (by omega),cond_false,e3,D4]
  show (bif kd bSk (ly n (k-1)) then _ else _)=_
  cases hs:kd bSk (ly n (k-1))
  ·have D2:=(W.wD (k-1) (by omega)).1
   have es:f13 (rd (Ty.z (.sl (.int .i64))) d ((k-1:Nat):Int)) (rd (Ty.z (.sl (.int .i64))) d (k:Int))=some (decide (dm d (k-1)=dm d k)):=sameR (dm d (k-1)) (dm d k) (by omega)
   rw [cond_false,e2,e1,D4,es,Bh]
   congr 2
   rw [decide_eq_decide]
   exact ⟨fun hh=>⟨by omega,rfl,hh⟩,fun hh=>hh.2.2⟩
  ·rw [cond_true,dF (fun hh=>absurd hh.2.1 (by decide))];rfl
include hl
theorem stepR (all:Int) (ha:0≤all∧all≤4097) (great:Bool) :
  f15_j53 n all great (k:Int) d=some (match nx n k d with | none=>Sum.inr () | some o=>Sum.inl (all+pt (ly n k) (dm d k),great||decide (pc (ly n k) (dm d k)>4096),o)):=by
 have hL:=W.wL
 have D:=W.wD k (Nat.le_refl _)
 obtain ⟨q1,q2⟩:=dd_prod D
 have e1:IntKind.i64.wrap ((List.length d:Int)-1)=(k:Int):=by rw [Fl];omega
 have hly:rd (Ty.z (.p .str (.p (.int .i64) (.int .i64)))) n.2 (k:Int)=ly n k:=rfl
 have hdm:rd (Ty.z (.sl (.int .i64))) d (k:Int)=dm d k:=rfl
 have ej:=j62R W hk hN
 unfold f15_j53 nx pt pc
 rw [e1,hly,hdm]
 show (bif kd F6 (ly n k) then _ else bif kd Gq (ly n k) then _ else bif kd Jg (ly n k) then _ else bif kd bSk (ly n k) then _ else _)=_
 have z0:∀ g:Bool,(g||decide ((0:Int)>4096))=g:=fun g=>by cases g <;> rfl
 cases h1:kd F6 (ly n k)
 ·simp only [cond_false]
  cases h2:kd Gq (ly n k)
  ·simp only [cond_false]
   cases h3:kd Jg (ly n k)
   ·simp only [cond_false]
    cases h4:kd bSk (ly n k)
    ·simp only [cond_false]
     rw [z0,Int.add_zero]
    ·simp only [cond_true]
     rw [ej,Bh]
     by_cases hc:0<k∧kd bSk (ly n (k-1))=false∧dm d (k-1)=dm d k
     ·rw [dT hc,if_pos hc]
      simp only [Bool.not_true,cond_false]
      rw [z0,Int.add_zero]
     ·rw [dF hc,if_neg hc];rfl
   ·simp only [cond_true]
    obtain ⟨p1,p2⟩:=lokP hl h3
    unfold f15_j60 f15_j61
    rw [e1,hly,hdm]
    by_cases e2:(dm d k).length=2
    ·have g:0≤(1:Int)∧(1:Int)<(List.length (dm d k):Int):=by omega
     by_cases hc:(ly n k).2.1≤rd (0:Int) (dm d k) 1
     ·obtain ⟨c0,c1⟩:=dd_rd D 1 (by omega)
      have c0':1≤rd (0:Int) (dm d k) 1:=c0
      have c1':rd (0:Int) (dm d k) 1≤1024:=c1
      have r2:rd (0:Int) (dm d k) 1/(ly n k).2.1≤rd (0:Int) (dm d k) 1:=Int.ediv_le_self _ (by omega)
      have r1:0≤rd (0:Int) (dm d k) 1/(ly n k).2.1:=Int.ediv_nonneg (by omega) (by omega)
      rw [nF,cond_false,D4 g,Bh,dF (p:=(ly n k).2.1>rd (0:Int) (dm d k) 1) (by omega)]
      simp only [cond_false,Bh,Fu]
      rw [D4 (p:=0≤(0:Int)∧(0:Int)<(List.length (dm d k):Int)) (by omega),D4 g,D4 (p:=(ly n k).2.1≠0) (by omega),if_pos ⟨e2,hc⟩,z0,Int.add_zero,Int.tdiv_eq_ediv_of_nonneg (by omega),Fl]
     ·rw [nF,cond_false,D4 g,Bh,dT (p:=(ly n k).2.1>rd (0:Int) (dm d k) 1) (by omega),if_neg (fun hh=>hc hh.2)];rfl
    ·rw [nT,cond_true,if_neg (fun hh=>e2 hh.1)];rfl
  ·simp only [cond_true]
   obtain ⟨⟨p1,p2⟩,p3,p4⟩:=lokC hl h2
   unfold f15_j56 f15_j57
   rw [e1,hly,hdm]
   by_cases e2:(dm d k).length=2
   ·have g:0≤(1:Int)∧(1:Int)<(List.length (dm d k):Int):=by omega
    have g0:0≤(0:Int)∧(0:Int)<(List.length (dm d k):Int):=by omega
    obtain ⟨b0,b1⟩:=dd_rd D 0 (by omega)
    have b0':1≤rd (0:Int) (dm d k) 0:=b0
    have b1':rd (0:Int) (dm d k) 0≤1024:=b1
    obtain ⟨m1,m2⟩:=Km p1 p2 b0' b1'
    obtain ⟨m3,m4⟩:=Km m1 m2 p3 p4
    by_cases hc:(ly n k).2.2≤rd (0:Int) (dm d k) 1
    ·obtain ⟨c0,c1⟩:=dd_rd D 1 (by omega)
     have c0':1≤rd (0:Int) (dm d k) 1:=c0
     have c1':rd (0:Int) (dm d k) 1≤1024:=c1
     have ej2:f15_j58 n great (k:Int) d=some (great||decide ((ly n k).2.1*rd (0:Int) (dm d k) 0*(ly n k).2.2>4096)):=by
      unfold f15_j58
      cases great
      ·rw [cond_false,e1,hly,hdm,D4 g0,Fl (n:=(ly n k).2.1*rd (0:Int) (dm d k) 0) (by omega) (by omega),Fl];rfl
      ·rfl
     rw [nF,cond_false,D4 g,Bh,dF (p:=(ly n k).2.2>rd (0:Int) (dm d k) 1) (by omega)]
     simp only [cond_false,Bh,Fu]
     rw [ej2,Bh,D4 g0,D4 g,if_pos ⟨e2,hc⟩,Fl (n:=(ly n k).2.1*rd (0:Int) (dm d k) 0) (by omega) (by omega),Fl (n:=(ly n k).2.1*rd (0:Int) (dm d k) 0*(ly n k).2.2) (by omega) (by omega),Fl (n:=all+(ly n k).2.1*rd (0:Int) (dm d k) 0*(ly n k).2.2) (by omega) (by omega),
      Fl (n:=rd (0:Int) (dm d k) 1-(ly n k).2.2) (by omega) (by omega),Fl]
    ·rw [nF,cond_false,D4 g,Bh,dT (p:=(ly n k).2.2>rd (0:Int) (dm d k) 1) (by omega),if_neg (fun hh=>hc hh.2)];rfl
   ·rw [nT,cond_true,if_neg (fun hh=>e2 hh.1)];rfl
 ·simp only [cond_true]
  obtain ⟨p1,p2⟩:=lokD hl h1
  obtain ⟨m1,m2⟩:=Km p1 p2 q1 q2
  have ej2:f15_j54 n great (k:Int) (Fp (dm d k))=some (great||decide ((ly n k).2.1*Fp (dm d k)>4096)):=by
   unfold f15_j54
   cases great
   ·rw [cond_false,hly,Fl];rfl
   ·rfl
  rw [rpro (Ke D) (by omega) (by have:=D.1;omega),Bh,ej2,Bh,Fl (n:=(ly n k).2.1*Fp (dm d k)) (by omega) (by omega),Fl (n:=all+(ly n k).2.1*Fp (dm d k)) (by omega) (by omega),Fl,Int.add_assoc]
end
def alR (n:Nt) (d:List (List Int)) (k:Nat):Int:=if mny n d k>4096 then 4097 else mny n d k
def grR (n:Nt) (d:List (List Int)) (k:Nat):Bool:=gr n d k||decide (mny n d k>4096)
theorem mny_grow {n:Nt} {d:List (List Int)} {k:Nat} (W:WF n k d) (hg:gok n=true) (hk:k≤n.2.length):∀ i,i≤k→0≤mny n d i∧mny n d i≤i*268435712
 | 0,_=>by simp [mny]
 | i+1,h=>by
  have:=mny_grow W hg hk i (by omega)
  have:=pc_in ((Jq hg).2 i (by omega)) (W.wD i (by omega)) (W.fC i (by omega))
  simp only [mny]
  omega
theorem loopR (n:Nt) (hN:n.2.length≤40) (hg:gok n=true) :
  Fq (fun go (x:Int×Bool×Int×List (List Int))=>f15_l43 n go x.1 x.2.1 x.2.2.1 x.2.2.2) Fv ((0:Int),decide ((List.length n.2:Int)>16),(0:Int),[n.1]) =
   some (match wk n n.2.length with | none=>Sum.inl () | some d=>Sum.inr (alR n d n.2.length,grR n d n.2.length,d)):=by
 have LL:=Gd (B:=fun go (x:Int×Bool×Int×List (List Int))=>f15_l43 n go x.1 x.2.1 x.2.2.1 x.2.2.2) (fun x=>∃ (k:Nat) (d:List (List Int)),k≤n.2.length∧wk n k=some d∧x=(alR n d k,grR n d k,(k:Int),d)) (fun x=>n.2.length-x.2.2.1.toNat)
  (fun z=>z=match wk n n.2.length with | none=>Sum.inl () | some d=>Sum.inr (alR n d n.2.length,grR n d n.2.length,d)) ?_ ((0:Int),decide ((List.length n.2:Int)>16),(0:Int),[n.1]) ⟨0,[n.1],by omega,rfl,by unfold alR grR mny gr;simp⟩ (by simp only;omega)
 ·obtain ⟨z,ez,hz⟩:=LL
  rw [ez,hz]
 ·rintro _ ⟨k,d,hk,hd,rfl⟩
  have W:=wk_wf hg k d hk hd
  have hL:=W.wL
  obtain ⟨s1,s2⟩:=mny_grow W hg hk k (Nat.le_refl _)
  have ha:0≤alR n d k∧alR n d k≤4097:=by unfold alR;split <;> omega
  by_cases h:k<n.2.length
  ·have hl:=(Jq hg).2 k h
   have es:=stepR W.toWS h hN hl (alR n d k) ha (grR n d k)
   have e1:IntKind.i64.wrap ((List.length d:Int)-1)=(k:Int):=by rw [Fl];omega
   cases hn:nx n k d with
   | none=>
    have hs:wk n (k+1)=none:=by simp only [wk];rw [hd];simp only;rw [hn]
    rw [hn] at es
    refine .inl ⟨Sum.inl (),fun go=>?_,by rw [wk_stop hs _ h]⟩
    unfold f15_l43
    simp only
    rw [dT,cond_true,e1,D4,D4,es,Bh,F4]
   | some o=>
    rw [hn] at es
    have hs:wk n (k+1)=some (d++[o]):=by simp only [wk];rw [hd];simp only;rw [hn]
    have W2:=wk_wf hg (k+1) _ h hs
    have Do:=nx_dd hl (W.wD k (Nat.le_refl _)) hn
    obtain ⟨q1,q2⟩:=dd_prod Do
    have hp:=pc_in hl (W.wD k (Nat.le_refl _)) (fun hc=>nx_conv hn hc)
    have em:mny n (d++[o]) (k+1)=mny n d k+pt (ly n k) (dm d k):=by
     simp only [mny]
     rw [dm_app _ _ _ (by omega),mny_ext (d':=d) k (fun i hi=>dm_app _ _ _ (by omega))]
    have eg:gr n (d++[o]) (k+1)=(gr n d k||decide (pc (ly n k) (dm d k)>4096)||decide (Fp o>4096)):=by
     have el:dm (d++[o]) (k+1)=o:=by have:=dm_last d o;rw [hL] at this;exact this
     simp only [gr]
     rw [dm_app _ _ _ (by omega),gr_ext (d':=d) k (fun i hi=>dm_app _ _ _ (by omega)),el]
    refine .inr ⟨(alR n (d++[o]) (k+1),grR n (d++[o]) (k+1),((k+1:Nat):Int),d++[o]),fun go=>?_,⟨k+1,d++[o],h,hs,rfl⟩,by simp only [Int.toNat_natCast];omega⟩
    have e63:f15_j63 (alR n d k+pt (ly n k) (dm d k),grR n d k||decide (pc (ly n k) (dm d k)>4096),o)=some (grR n d k||decide (pc (ly n k) (dm d k)>4096)||decide (Fp o>4096)):=by
     unfold f15_j63
     simp only
     rw [rpro (Ke Do) (by omega) (by have:=Do.1;omega),Bh]
     cases (grR n d k||decide (pc (ly n k) (dm d k)>4096)) <;> rfl
    have e64:∀ g,f15_j64 (alR n d k+pt (ly n k) (dm d k),grR n d k||decide (pc (ly n k) (dm d k)>4096),o) g=some (if alR n d k+pt (ly n k) (dm d k)>4096 then (4097,true) else (alR n d k+pt (ly n k) (dm d k),g)):=fun g=>by
     unfold f15_j64
     simp only
     by_cases hh:alR n d k+pt (ly n k) (dm d k)>4096
     ·rw [dT hh,if_pos hh];rfl
     ·rw [dF hh,if_neg hh];rfl
    have fin:(if alR n d k+pt (ly n k) (dm d k)>4096 then ((4097:Int),true) else (alR n d k+pt (ly n k) (dm d k),grR n d k||decide (pc (ly n k) (dm d k)>4096)||decide (Fp o>4096)))=(alR n (d++[o]) (k+1),grR n (d++[o]) (k+1)):=by
     unfold grR alR
     rw [em,eg]
     by_cases h1:mny n d k>4096
     ·rw [if_pos h1,iPo,iPo,dT (p:=mny n d k+pt (ly n k) (dm d k)>4096) (by omega)]
      simp
     ·rw [if_neg h1]
      by_cases h2:mny n d k+pt (ly n k) (dm d k)>4096
      ·rw [if_pos h2,if_pos h2,dT (p:=mny n d k+pt (ly n k) (dm d k)>4096) h2];simp
      ·rw [if_neg h2,if_neg h2,dF (p:=mny n d k+pt (ly n k) (dm d k)>4096) h2,dF (p:=mny n d k>4096) h1];simp
    have g2:(List.length ([]:List Int)+List.length o)*8≤140737488355328:=by have:=Do.1;simp only [List.length_nil];omega
    have g3:(List.length d+List.length [([]:List Int)++o])*24≤140737488355328:=by simp only [List.length_cons,List.length_nil];omega
    unfold f15_l43
    simp only
    rw [dT,cond_true,e1,D4,D4,es,Bh,Fu,e63,Bh,e64,Bh,fin,D4 g2,D4 g3,G1 k]
    rfl
  ·obtain rfl:k=n.2.length:=by omega
   refine .inl ⟨Sum.inr (alR n d n.2.length,grR n d n.2.length,d),fun go=>?_,by rw [hd]⟩
   unfold f15_l43
   simp only
   rw [dF,cond_false]
theorem shapesR (n:Nt) (hN:n.2.length≤40):f15 n=some ((shs n).2.1,(shs n).1,(shs n).2.2):=by
 unfold f15 shs
 have e1:f39 (n.1,n.2)=some (gok n):=formedR n hN
 rw [e1,Bh]
 cases hg:gok n
 ·rfl
 ·have D:=(Jq hg).1
  have g2:(List.length ([]:List Int)+List.length n.1)*8≤140737488355328:=by have:=D.1;simp only [List.length_nil];omega
  have L:Fq (fun go (x:Int×Bool×Int×List (List Int))=>f15_l43 n go x.1 x.2.1 x.2.2.1 x.2.2.2) Fv ((0:Int),decide ((List.length n.2:Int)>16),(0:Int),[([]:List Int)++n.1])=_:=loopR n hN hg
  rw [Bool.not_true,cond_false,D4 g2,L,Bh]
  cases hw:wk n n.2.length with
  | none=>rfl
  | some d=>
   have W:=wk_wf hg _ _ (Nat.le_refl _) hw
   simp only [F4,cond_true]
   unfold f15_j66 f15_j67
   simp only
   obtain ⟨q1,q2⟩:=dd_prod D
   rw [rpro (Ke D) (by omega) (by have:=D.1;omega),Bh]
   have eb:bad n d=(grR n d n.2.length||decide (Fp n.1>4096)):=by unfold bad grR;rfl
   rw [eb]
   cases hgr:grR n d n.2.length
   ·have hm:¬mny n d n.2.length>4096:=by
     unfold grR at hgr
     simp only [Bool.or_eq_false_iff,decide_eq_false_iff_not] at hgr
     exact hgr.2
    have ea:alR n d n.2.length=mny n d n.2.length:=by unfold alR;rw [if_neg hm]
    rw [ea]
    cases decide (Fp n.1>4096) <;> rfl
   ·rfl
def GL (l:List Nd):Prop:=∀ i,i<l.length→GoodT (nd l i)
theorem gl_nil:GL []:=fun i h=>absurd h (by simp)
theorem gl_push {l:List Nd} (G:GL l) (n:Nd) (h:GoodT n.2.2.2.2):GL (l++[n]):=fun i hi=>by
 by_cases e:i<l.length
 ·rw [Kd _ _ _ e];exact G i e
 ·have:i=l.length:=by simp at hi;omega
  subst this
  rw [J6];exact h
def Push (p q:Option (Int×Int×List Nd)) (l:List Nd) (d:List Int):Prop:=
 ∃ m:Nd,p=some ((l.length:Int),0,l++[m])∧q=some ((l.length:Int),0,l++[m])∧m.2.2.2.2.1=d∧GL (l++[m])
theorem push_leaf (l:List Nd) (x:Tn) (hl:l.length<512) (G:GL l) (gx:GoodT x):Push (f69 l x) (f46 l x) l x.1:=
 ⟨_,leaf_ok l x hl gx.1,leafR l x hl gx.1,rfl,gl_push G _ gx⟩
theorem push_two (l:List Nd) (op:Int) (A B:Nat) (k:Int) (hl:l.length<512) (G:GL l) (o1:2≤op) (o2:op≤14) (ht:isTwo op=true) (hA:A<l.length) (hB:B<l.length) (r:Int×Tn)
  (e1:f120 op (nd l A) (nd l B) k=some r) (e2:f74 op (nd l A) (nd l B) (cntK op k)=some r) (er:r.1=0) (gr:GoodT r.2):Push (f93 l op A B k) (f47 l op A B k) l r.2.1:=by
 have gA:0≤(A:Int)∧(A:Int)<(l.length:Int):=by omega
 have gB:0≤(B:Int)∧(B:Int)<(l.length:Int):=by omega
 have hj1P:f93_j1 l op A B=some (Sum.inl l):=by
  unfold f93_j1
  rw [dF,dF,dF,hasP,dT gA,two_ok]
  simp only [cond_false,Bh,Bool.not_true]
  rw [ht,cond_true,hasP,dT gB];rfl
 have hj1R:f47_j1 l op A B=some (Sum.inl ()):=by
  unfold f47_j1
  rw [dF,dF,dF,dF,twoR]
  simp only [cond_false,Bh]
  rw [ht,cond_true,dF,dF];rfl
 have m1:f93_j3 op A B k l=some (r.1,(B:Int),r.2.1,r.2.2):=by
  unfold f93_j3
  unfold nd at e1
  rw [two_ok,ht,Bh,cond_true,D4 gA,D4 gB,e1];rfl
 have m2:f47_j2 l op B=some ((B:Int),nd l B):=by
  unfold f47_j2
  rw [twoR,ht,Bh,cond_true,D4 gB];rfl
 have m3:f47_j4 l op A ((B:Int),nd l B) (cntK op k)=some r:=by
  unfold f47_j4
  have e:f74 op ((rd (Ty.z (.p (.int .i64) (.p (.int .i64) (.p (.int .i64) (.p (.int .i64) (.p (.sl (.int .i64)) (.sl (.int .i64)))))))) l (A:Int)).2.2.2.2.1,(rd (Ty.z (.p (.int .i64) (.p (.int .i64) (.p (.int .i64) (.p (.int .i64) (.p (.sl (.int .i64)) (.sl (.int .i64)))))))) l (A:Int)).2.2.2.2.2) (((B:Int),nd l B).2.1,((B:Int),nd l B).2.2) (cntK op k)=some r:=e2
  rw [D4 gA,e];rfl
 have h3:∀ x:Nd,(l.length+List.length [x])*80≤140737488355328:=fun x=>by simp only [List.length_cons,List.length_nil];omega
 refine ⟨(op,(A:Int),(B:Int),cntK op k,r.2.1,r.2.2),?_,?_,rfl,gl_push G _ gr⟩
 ·unfold f93
  rw [hj1P,Bh,Fu,cnt_ok,Bh,m1,Bh,nF er,cond_false,push_ok _ _ hl];rfl
 ·unfold f47
  rw [dF,cond_false,hj1R,Bh,Fu,m2,Bh,cntR,Bh,m3,Bh,nF er,cond_false,D4 (h3 _),List.length_append,Fl (by simp <;> omega) (by simp <;> omega)]
  simp
theorem push_one (l:List Nd) (op:Int) (A:Nat) (b b' k:Int) (hl:l.length<512) (G:GL l) (o1:2≤op) (o2:op≤14) (ht:isTwo op=false) (hA:A<l.length) (r:Int×Tn)
  (e1:f121 op (nd l A) k=some r) (e2:f74 op (nd l A) noT (cntK op k)=some r) (er:r.1=0) (gr:GoodT r.2):Push (f93 l op A b k) (f47 l op A b' k) l r.2.1:=by
 have gA:0≤(A:Int)∧(A:Int)<(l.length:Int):=by omega
 have hj1P:f93_j1 l op A b=some (Sum.inl l):=by
  unfold f93_j1
  rw [dF,dF,dF,hasP,dT gA,two_ok]
  simp only [cond_false,Bh,Bool.not_true]
  rw [ht];rfl
 have hj1R:f47_j1 l op A b'=some (Sum.inl ()):=by
  unfold f47_j1
  rw [dF,dF,dF,dF,twoR]
  simp only [cond_false,Bh]
  rw [ht];rfl
 have m1:f93_j3 op A b k l=some (r.1,-1,r.2.1,r.2.2):=by
  unfold f93_j3
  unfold nd at e1
  rw [two_ok,ht,Bh,cond_false,D4 gA,e1];rfl
 have m2:f47_j2 l op b'=some (-1,noT):=by
  unfold f47_j2
  rw [twoR,ht];rfl
 have m3:f47_j4 l op A (-1,noT) (cntK op k)=some r:=by
  unfold f47_j4
  have e:f74 op ((rd (Ty.z (.p (.int .i64) (.p (.int .i64) (.p (.int .i64) (.p (.int .i64) (.p (.sl (.int .i64)) (.sl (.int .i64)))))))) l (A:Int)).2.2.2.2.1,(rd (Ty.z (.p (.int .i64) (.p (.int .i64) (.p (.int .i64) (.p (.int .i64) (.p (.sl (.int .i64)) (.sl (.int .i64)))))))) l (A:Int)).2.2.2.2.2) (((-1:Int),noT).2.1,((-1:Int),noT).2.2) (cntK op k)=some r:=e2
  rw [D4 gA,e];rfl
 have h3:∀ x:Nd,(l.length+List.length [x])*80≤140737488355328:=fun x=>by simp only [List.length_cons,List.length_nil];omega
 refine ⟨(op,(A:Int),(-1:Int),cntK op k,r.2.1,r.2.2),?_,?_,rfl,gl_push G _ gr⟩
 ·unfold f93
  rw [hj1P,Bh,Fu,cnt_ok,Bh,m1,Bh,nF er,cond_false,push_ok _ _ hl];rfl
 ·unfold f47
  rw [dF,cond_false,hj1R,Bh,Fu,m2,Bh,cntR,Bh,m3,Bh,nF er,cond_false,D4 (h3 _),List.length_append,Fl (by simp <;> omega) (by simp <;> omega)]
  simp
section
variable {l:List Nd} (hl:l.length<512) (G:GL l)
include hl G
theorem push_add {A B:Nat} (hA:A<l.length) (hB:B<l.length) (h:(nd l A).1=(nd l B).1):Push (f93 l 2 A B 0) (f47 l 2 A B 0) l (nd l A).1:=by
 have ga:=G A hA
 have gb:=G B hB
 have eb:=both_self addV (nd l A) (nd l B) ga.1 gb.1 h
 have e1:f120 2 (nd l A) (nd l B) 0=some (J9 addV (nd l A) (nd l B)):=by
  show Ey (f138 (nd l A) (nd l B)) _=_
  rw [addP _ _ ga.2 gb.2];rfl
 have e2:f74 2 (nd l A) (nd l B) (cntK 2 0)=some (J9 addV (nd l A) (nd l B)):=by
  unfold f74 f74_j3
  rw [show f74_j4 2=some true from rfl,Bh,cond_true,Fl]
  have e:f30 (2-2) ((nd l A).1,(nd l A).2) ((nd l B).1,(nd l B).2)=some (J9 addV (nd l A) (nd l B)):=addR _ _ ga.2 gb.2
  rw [e];rfl
 have er:(J9 addV (nd l A) (nd l B)).1=0:=by rw [eb]
 have P:=push_two l 2 A B 0 hl G (by omega) (by omega) (by kernel_rfl) hA hB _ e1 e2 er (both_good addV (fun x y=>sat_in _) _ _ er)
 rw [eb] at P
 exact P
theorem push_mul {A B:Nat} (hA:A<l.length) (hB:B<l.length) (a K:Int) (ha:(nd l A).1=[a,K]) (hb:(nd l B).1=[K]):Push (f93 l 4 A B 0) (f47 l 4 A B 0) l [a,K]:=by
 have ga:=G A hA
 have gb:=G B hB
 have pa:=(Ga ga.1).1
 have pb:=(Ga gb.1).1
 rw [ha] at pa
 rw [hb] at pb
 have F:Fits [K] [a,K]:=⟨pb,pa,by simp,fun k hk _=>by
  obtain rfl:k=0:=by simpa using hk
  rfl⟩
 have ej:jS (nd l A).1 (nd l B).1=(0,[a,K]):=by rw [ha,hb,jS_comm];exact jS_fits.2 F
 have eb:(J9 mulX (nd l A) (nd l B)).1=0∧(J9 mulX (nd l A) (nd l B)).2.1=[a,K]:=by
  unfold J9
  rw [if_pos ⟨ga.1,gb.1⟩,ej,if_pos rfl];exact ⟨rfl,rfl⟩
 have e1:f120 4 (nd l A) (nd l B) 0=some (J9 mulX (nd l A) (nd l B)):=by
  show Ey (f140 (nd l A) (nd l B)) _=_
  rw [mulP _ _ ga.2 gb.2];rfl
 have e2:f74 4 (nd l A) (nd l B) (cntK 4 0)=some (J9 mulX (nd l A) (nd l B)):=by
  unfold f74 f74_j3
  rw [show f74_j4 4=some true from rfl,Bh,cond_true,Fl]
  have e:f30 (4-2) ((nd l A).1,(nd l A).2) ((nd l B).1,(nd l B).2)=some (J9 mulX (nd l A) (nd l B)):=mulR _ _ ga.2 gb.2
  rw [e];rfl
 have P:=push_two l 4 A B 0 hl G (by omega) (by omega) (by kernel_rfl) hA hB _ e1 e2 eb.1 (both_good mulX (fun x y=>sat_in _) _ _ eb.1)
 rw [eb.2] at P
 exact P
theorem push_sum {A:Nat} (hA:A<l.length) (a K:Int) (ha:(nd l A).1=[a,K]):Push (f93 l 8 A 0 1) (f47 l 8 A (-1) 1) l [a]:=by
 have ga:=G A hA
 have ask:Gt (nd l A) 1:=⟨ga.1,by omega,by rw [ha];simp⟩
 have eb:(sideS (nd l A) 1).1=0∧(sideS (nd l A) 1).2.1=[a]:=by
  unfold sideS
  rw [if_pos ask,ha];exact ⟨rfl,rfl⟩
 have e1:f121 8 (nd l A) 1=some (sideS (nd l A) 1):=by
  show Ey (f145 (nd l A) 1) _=_
  rw [sideP _ 1 ga.2];rfl
 have e2:f74 8 (nd l A) noT (cntK 8 1)=some (sideS (nd l A) 1):=by
  have ek:cntK 8 1=1:=rfl
  unfold f74 f74_j3
  rw [show f74_j4 8=some false from rfl,Bh,cond_false,bF (by decide),cond_false,bF (by decide),cond_false,bF (by decide),cond_false,bT rfl,cond_true,ek,whole_ok,Bh]
  have e:f97 ((nd l A).1,(nd l A).2) (wh 1)=some (sideS (nd l A) (wh 1)):=sideR _ (wh 1) ga.2
  rw [e,side_wh _ 1 ga.1];rfl
 have P:=push_one l 8 A 0 (-1) 1 hl G (by omega) (by omega) (by kernel_rfl) hA _ e1 e2 eb.1 (side_good _ 1 eb.1)
 rw [eb.2] at P
 exact P
theorem push_bend {A:Nat} (hA:A<l.length) (k:Int) (k0:1≤k) (k5:k≤5):Push (f93 l 11 A 0 k) (f47 l 11 A (-1) k) l (nd l A).1:=by
 have ga:=G A hA
 have eb:(bentS k (nd l A)).1=0∧(bentS k (nd l A)).2.1=(nd l A).1:=by
  unfold bentS
  rw [if_pos ⟨k0,k5,ga.1⟩];exact ⟨rfl,rfl⟩
 have e1:f121 11 (nd l A) k=some (bentS k (nd l A)):=by
  show Ey (f149 k (nd l A)) _=_
  rw [bentP k _ ga.2];rfl
 have e2:f74 11 (nd l A) noT (cntK 11 k)=some (bentS k (nd l A)):=by
  have ek:cntK 11 k=k:=rfl
  unfold f74 f74_j3
  rw [show f74_j4 11=some false from rfl,Bh,cond_false,bF (by decide),cond_false,bF (by decide),cond_false,bF (by decide),cond_false,bF (by decide),cond_false,bF (by decide),cond_false,bF (by decide),cond_false,bT rfl,cond_true,ek,whole_ok,Bh]
  have e:f29 (wh k) ((nd l A).1,(nd l A).2)=some (bentS (wh k) (nd l A)):=bentR (wh k) _ ga.2
  rw [e,bent_wh];rfl
 have P:=push_one l 11 A 0 (-1) k hl G (by omega) (by omega) (by kernel_rfl) hA _ e1 e2 eb.1 (bent_good k _ ga.2 eb.1)
 rw [eb.2] at P
 exact P
theorem push_shape {A:Nat} (hA:A<l.length):Push (f93 l 14 A 0 0) (f47 l 14 A (-1) 0) l [Fp (nd l A).1]:=by
 have ga:=G A hA
 obtain ⟨p0,p1,p2,p3⟩:=Ga ga.1
 obtain ⟨q1,_⟩:=Gs p0
 have ep:=prd_one ((nd l A).2.length:Int) (by omega) (by omega)
 have eb:(reshS (nd l A) [((nd l A).2.length:Int)]).1=0∧(reshS (nd l A) [((nd l A).2.length:Int)]).2.1=[Fp (nd l A).1]:=by
  unfold reshS
  rw [if_pos ⟨ga.1,by omega⟩,if_pos ep]
  exact ⟨rfl,by rw [p1,q1]⟩
 have e1:f121 14 (nd l A) 0=some (reshS (nd l A) [((nd l A).2.length:Int)]):=by
  show Ey (f151 (nd l A) [((nd l A).2.length:Int)]) _=_
  rw [reshP];rfl
 have e2:f74 14 (nd l A) noT (cntK 14 0)=some (reshS (nd l A) [((nd l A).2.length:Int)]):=by
  unfold f74 f74_j3
  rw [show f74_j4 14=some false from rfl,Bh,cond_false,bF (by decide),cond_false,bF (by decide),cond_false,bF (by decide),cond_false,bF (by decide),cond_false,bF (by decide),cond_false,bF (by decide),cond_false,bF (by decide),cond_false,bF (by decide),cond_false,bF (by decide),cond_false,Bh,Fu]
  have e:f104 ((nd l A).1,(nd l A).2) [((nd l A).2.length:Int)]=some (reshS (nd l A) [((nd l A).2.length:Int)]):=reshR _ _
  rw [e];rfl
 have P:=push_one l 14 A 0 (-1) 0 hl G (by omega) (by omega) (by kernel_rfl) hA _ e1 e2 eb.1 (resh_good _ _ ga.2 eb.1)
 rw [eb.2] at P
 exact P
theorem push_pool {A:Nat} (hA:A<l.length) (c L w:Int) (ha:(nd l A).1=[c,L]) (w1:1≤w) (wL:w≤L):Push (f93 l 13 A 0 w) (f47 l 13 A (-1) w) l [c,L/w]:=by
 have ga:=G A hA
 have e0:rd (0:Int) (nd l A).1 0=c:=by rw [ha];rfl
 have e1':rd (0:Int) (nd l A).1 1=L:=by rw [ha];rfl
 have eb:(Kg (nd l A) w).1=0∧(Kg (nd l A) w).2.1=[c,L/w]:=by
  unfold Kg
  rw [if_pos ga.1,if_pos (by rw [ha];rfl),if_pos ⟨w1,by rw [e1'];exact wL⟩]
  refine ⟨rfl,?_⟩
  simp only
  rw [e0,e1']
  obtain ⟨x,rfl⟩:=Int.eq_ofNat_of_zero_le (show 0≤w by omega)
  obtain ⟨y,rfl⟩:=Int.eq_ofNat_of_zero_le (show 0≤L by omega)
  rfl
 have e1:f121 13 (nd l A) w=some ((Kg (nd l A) w).1,(Kg (nd l A) w).2.1,(Kg (nd l A) w).2.2.1):=by
  show Ey (f150 (nd l A) w) _=_
  rw [poolP _ w];rfl
 have e2:f74 13 (nd l A) noT (cntK 13 w)=some ((Kg (nd l A) w).1,(Kg (nd l A) w).2.1,(Kg (nd l A) w).2.2.1):=by
  have ek:cntK 13 w=w:=rfl
  unfold f74 f74_j3 f74_j5
  rw [show f74_j4 13=some false from rfl,Bh,cond_false,bF (by decide),cond_false,bF (by decide),cond_false,bF (by decide),cond_false,bF (by decide),cond_false,bF (by decide),cond_false,bF (by decide),cond_false,bF (by decide),cond_false,bF (by decide),cond_false,bT rfl,cond_true,ek,whole_ok,Bh]
  have e:f103 ((nd l A).1,(nd l A).2) (wh w)=some (Kg (nd l A) (wh w)):=poolR _ (wh w)
  rw [e,pool_wh _ w ga.1];rfl
 have P:=push_one l 13 A 0 (-1) w hl G (by omega) (by omega) (by kernel_rfl) hA _ e1 e2 eb.1 (pool_good _ w ga.2 eb.1)
 simp only at P
 rw [eb.2] at P
 exact P
theorem push_row {A B:Nat} (hA:A<l.length) (hB:B<l.length) (c L m b:Int) (ha:(nd l A).1=[c,L]) (hb:(nd l B).1=[m,c,b]) (b1:1≤b) (bL:b≤L) (m1:1≤m) (hm:m*(L-b+1)≤4096) :
  Push (f93 l 12 A B 1) (f47 l 12 A B 1) l [m,L-b+1]:=by
 have ga:=G A hA
 have gb:=G B hB
 have f0:rd (0:Int) (nd l A).1 0=c:=by rw [ha];rfl
 have f1:rd (0:Int) (nd l A).1 1=L:=by rw [ha];rfl
 have g0:rd (0:Int) (nd l B).1 0=m:=by rw [hb];rfl
 have g1:rd (0:Int) (nd l B).1 1=c:=by rw [hb];rfl
 have g2:rd (0:Int) (nd l B).1 2=b:=by rw [hb];rfl
 have em:(Gf L.toNat b.toNat (Int.toNat 1):Int)=L-b+1:=by
  unfold Gf
  rw [show Int.toNat 1=1 from rfl,Nat.div_one];omega
 have pm:0<prd [m,L-b+1]:=by
  rw [prd_two]
  have h1:=Int.mul_le_mul m1 (Int.le_refl (L-b+1)) (by omega) (by omega)
  have h2:=Int.mul_le_mul (Int.le_refl m) (show 1≤L-b+1 by omega) (by omega) (by omega)
  rw [iNo];omega
 have eb:(rowS (nd l A) (nd l B) 1).1=0∧(rowS (nd l A) (nd l B) 1).2.1=[m,L-b+1]:=by
  unfold rowS
  rw [if_pos ⟨ga.1,gb.1,by omega,by omega⟩,if_pos ⟨by rw [ha];rfl,by rw [hb];rfl,by rw [g1,f0],by rw [g2,f1];exact bL⟩,f1,g0,g2,em,if_pos pm]
  exact ⟨rfl,rfl⟩
 have e1:f120 12 (nd l A) (nd l B) 1=some (rowS (nd l A) (nd l B) 1):=by
  show Ey (f142 (nd l A) (nd l B) 1) _=_
  rw [rowP _ _ 1 ga.2 gb.2];rfl
 have e2:f74 12 (nd l A) (nd l B) (cntK 12 1)=some (rowS (nd l A) (nd l B) 1):=by
  have ek:cntK 12 1=1:=rfl
  unfold f74 f74_j3
  rw [show f74_j4 12=some false from rfl,Bh,cond_false,bF (by decide),cond_false,bF (by decide),cond_false,bF (by decide),cond_false,bF (by decide),cond_false,bF (by decide),cond_false,bF (by decide),cond_false,bF (by decide),cond_false,bT rfl,cond_true,ek,whole_ok,Bh]
  have e:f102 ((nd l A).1,(nd l A).2) ((nd l B).1,(nd l B).2) (wh 1)=some (rowS (nd l A) (nd l B) (wh 1)):=rowR _ _ (wh 1) ga.2 gb.2
  rw [e,row_wh];rfl
 have P:=push_two l 12 A B 1 hl G (by omega) (by omega) (by kernel_rfl) hA hB _ e1 e2 eb.1 (row_good2 _ _ 1 eb.1)
 rw [eb.2] at P
 exact P
end
theorem prd_of {d:List Int} (h1:∀ x ∈ d,1≤x) (hl:d.length≤4) (h:Fp d≤4096):prd d=Fp d:=by
 have e:prd d=1*Fp d:=by
  unfold prd
  rw [iNo]
  exact pgo_of d 1 (by omega) (fun x hx=>⟨h1 x hx,by have:=mem_prodL d h1 x hx;omega⟩) (by omega)
 rw [e,Int.one_mul]
theorem sl_eq (p:List Int) (u m:Int) (hu:0≤u) (hm:0≤m):List.drop (Int.toNat u) (List.take (Int.toNat (u+m)) p)=List.take (Int.toNat m) (List.drop (Int.toNat u) p):=by
 rw [List.drop_take];congr 1;omega
theorem inI_take {p:List Int} (h:inI p) (m:Nat):inI (p.take m):=fun x hx=>h x (List.mem_of_mem_take hx)
theorem inI_drop {p:List Int} (h:inI p) (m:Nat):inI (p.drop m):=fun x hx=>h x (List.mem_of_mem_drop hx)
theorem leafM {T T':List Nd} {P L dd v:List Int} {i:Int} (h:f69 T (dd,v)=some (i,0,T')):f43 T 0 P L dd v=some (i,0,P,L,T'):=by
 unfold f43
 rw [nF rfl,cond_false,h,Bh]
theorem doM {T T':List Nd} {P L:List Int} {op a b k i:Int} (h:f93 T op a b k=some (i,0,T')):f71 T 0 P L op a b k=some (i,0,P,L,T'):=by
 unfold f71
 rw [nF rfl,cond_false,h,Bh]
theorem par0 (T:List Nd) (P L:List Int):f70 T 0 P L []=some (0,0,0,P,L,T):=by
 unfold f70
 have LL:Fq (fun go (x:Int×Int×Int×Int×List Int×List Int×List Nd)=>f70_l3 [] go x.1 x.2.1 x.2.2.1 x.2.2.2.1 x.2.2.2.2.1 x.2.2.2.2.2.1 x.2.2.2.2.2.2) Fv ((0:Int),(0:Int),(0:Int),(0:Int),P,L,T)=some ((0:Int),(0:Int),(0:Int),P,L,T):=lp0 (fun go=>by unfold f70_l3;rfl)
 rw [LL,Bh]
theorem par_j {T T':List Nd} {P L:List Int} {ps:List (List Int)} {v:Nat} {e:List Int} {i:Int} (he:rd (Ty.z (.sl (.int .i64))) ps (v:Int)=e) (h1:∀ x ∈ e,1≤x) (hb:Fp e≤4096) (hl:e.length≤4) (hP:Fp e≤P.length)
  (h:f69 T (e,P.take (Fp e).toNat)=some (i,0,T')):f70_j4 ps (v:Int) 0 P L T=some (i,0,P,L,T'):=by
 have:=Gu e h1
 unfold f70_j4
 rw [he,mprod h1 (by omega) (by omega),Bh,D4,leafM h,Bh]
theorem par1 {T T1:List Nd} {P L:List Int} {e:List Int} {i:Int} (h1:∀ x ∈ e,1≤x) (hb:Fp e≤4096) (hl:e.length≤4) (hP:Fp e≤P.length) (hL:L.length≤1000)
  (h:f69 T (e,P.take (Fp e).toNat)=some (i,0,T1)):f70 T 0 P L [e]=some (i,i,0,P.drop (Fp e).toNat,L++[i],T1):=by
 have hp:=Gu e h1
 unfold f70
 have g:(L.length+List.length [i])*8≤140737488355328:=by simp only [List.length_cons,List.length_nil];omega
 have LL:Fq (fun go (x:Int×Int×Int×Int×List Int×List Int×List Nd)=>f70_l3 [e] go x.1 x.2.1 x.2.2.1 x.2.2.2.1 x.2.2.2.2.1 x.2.2.2.2.2.1 x.2.2.2.2.2.2) Fv ((0:Int),(0:Int),(0:Int),(0:Int),P,L,T)=some (i,i,(0:Int),P.drop (Fp e).toNat,L++[i],T1):=
  lp1 (x1:=(i,i,(1:Int),(0:Int),P.drop (Fp e).toNat,L++[i],T1)) (fun go=>?_) (fun go=>?_)
 ·rw [LL,Bh]
 ·have er:rd (Ty.z (.sl (.int .i64))) [e] (0:Int)=e:=rfl
  have ej:=par_j (ps:=[e]) (v:=0) (L:=L) er h1 hb hl hP h
  have ej2:f70_j4 [e] (0:Int) 0 P L T=some (i,0,P,L,T1):=ej
  unfold f70_l3
  simp only
  rw [dT (by simp),cond_true,D4 (by simp),ej2,Bh,er,mprod h1 (by omega) (by omega),Bh]
  simp only
  rw [D4,D4 g,bT rfl,cond_true];rfl
 ·unfold f70_l3
  simp only
  rw [dF (by simp),cond_false]
theorem par2 {T T1 T2:List Nd} {P L:List Int} {e e':List Int} {i i':Int} (h1:∀ x ∈ e,1≤x) (hb:Fp e≤4096) (hl:e.length≤4) (h1':∀ x ∈ e',1≤x) (hb':Fp e'≤4096) (hl':e'.length≤4) (hP:Fp e+Fp e'≤P.length) (hL:L.length≤1000)
  (h:f69 T (e,P.take (Fp e).toNat)=some (i,0,T1)) (h':f69 T1 (e',(P.drop (Fp e).toNat).take (Fp e').toNat)=some (i',0,T2)) :
  f70 T 0 P L [e,e']=some (i,i',0,(P.drop (Fp e).toNat).drop (Fp e').toNat,L++[i]++[i'],T2):=by
 have hp:=Gu e h1
 have hp':=Gu e' h1'
 have hd:((P.drop (Fp e).toNat).length:Int)=P.length-Fp e:=by rw [List.length_drop];omega
 unfold f70
 have g:(L.length+List.length [i])*8≤140737488355328:=by simp only [List.length_cons,List.length_nil];omega
 have g':((L++[i]).length+List.length [i'])*8≤140737488355328:=by simp only [List.length_append,List.length_cons,List.length_nil];omega
 have LL:Fq (fun go (x:Int×Int×Int×Int×List Int×List Int×List Nd)=>f70_l3 [e,e'] go x.1 x.2.1 x.2.2.1 x.2.2.2.1 x.2.2.2.2.1 x.2.2.2.2.2.1 x.2.2.2.2.2.2) Fv ((0:Int),(0:Int),(0:Int),(0:Int),P,L,T)=some (i,i',(0:Int),(P.drop (Fp e).toNat).drop (Fp e').toNat,L++[i]++[i'],T2):=
  lp2 (x1:=(i,i,(1:Int),(0:Int),P.drop (Fp e).toNat,L++[i],T1)) (x2:=(i,i',(2:Int),(0:Int),(P.drop (Fp e).toNat).drop (Fp e').toNat,L++[i]++[i'],T2)) (fun go=>?_) (fun go=>?_) (fun go=>?_)
 ·rw [LL,Bh]
 ·have er:rd (Ty.z (.sl (.int .i64))) [e,e'] (0:Int)=e:=rfl
  have ej:=par_j (ps:=[e,e']) (v:=0) (L:=L) er h1 hb hl (by omega) h
  have ej2:f70_j4 [e,e'] (0:Int) 0 P L T=some (i,0,P,L,T1):=ej
  unfold f70_l3
  simp only
  rw [dT (by simp),cond_true,D4 (by simp),ej2,Bh,er,mprod h1 (by omega) (by omega),Bh]
  simp only
  rw [D4,D4 g,bT rfl,cond_true];rfl
 ·have er:rd (Ty.z (.sl (.int .i64))) [e,e'] (1:Int)=e':=rfl
  have ej:=par_j (ps:=[e,e']) (v:=1) (L:=L++[i]) er h1' hb' hl' (by omega) h'
  have ej2:f70_j4 [e,e'] (1:Int) 0 (P.drop (Fp e).toNat) (L++[i]) T1=some (i',0,P.drop (Fp e).toNat,L++[i],T2):=ej
  unfold f70_l3
  simp only
  rw [dT (by simp),cond_true,D4 (by simp),ej2,Bh,er,mprod h1' (by omega) (by omega),Bh]
  simp only
  rw [D4,D4 g',bF (by omega),cond_false];rfl
 ·unfold f70_l3
  simp only
  rw [dF (by simp),cond_false]
theorem nx_ext {n:Nt} {k:Nat} {d d':List (List Int)} (h0:dm d k=dm d' k) (h1:dm d (k-1)=dm d' (k-1)):nx n k d=nx n k d':=by
 unfold nx;rw [h0,h1]
theorem wk_len {n:Nt}:∀ (m:Nat) (d:List (List Int)),wk n m=some d→d.length=m+1
 | 0,d,h=>by injection h with h;subst h;rfl
 | m+1,d,h=>by
  simp only [wk] at h
  cases hw:wk n m with
  | none=>rw [hw] at h;exact absurd h (by simp)
  | some d0=>
   rw [hw] at h
   simp only at h
   cases hn:nx n m d0 with
   | none=>rw [hn] at h;exact absurd h (by simp)
   | some o=>
    rw [hn] at h
    injection h with h;subst h
    have:=wk_len m d0 hw
    simp [this]
theorem wk_nx {n:Nt}:∀ (m:Nat) (d:List (List Int)),wk n m=some d→∀ k,k<m→nx n k d=some (dm d (k+1))
 | 0,d,h,k,hk=>absurd hk (Nat.not_lt_zero _)
 | m+1,d,h,k,hk=>by
  simp only [wk] at h
  cases hw:wk n m with
  | none=>rw [hw] at h;exact absurd h (by simp)
  | some d0=>
   rw [hw] at h
   simp only at h
   cases hn:nx n m d0 with
   | none=>rw [hn] at h;exact absurd h (by simp)
   | some o=>
    rw [hn] at h
    injection h with h;subst h
    have hl:=wk_len m d0 hw
    rw [nx_ext (d':=d0) (dm_app _ _ _ (by omega)) (dm_app _ _ _ (by omega))]
    by_cases e:k=m
    ·subst e
     have:=dm_last d0 o
     rw [hl] at this
     rw [hn,this]
    ·rw [dm_app _ _ _ (by omega)]
     exact wk_nx m d0 hw k (by omega)
structure RN (n:Nt) (d:List (List Int)) (p:List Int):Prop where
 nN:n.2.length≤12
 ng:gok n=true
 nw:wk n n.2.length=some d
 nb:bad n d=false
 np:(p.length:Int)=mny n d n.2.length
 ni:inI p
section
variable {n:Nt} {d:List (List Int)} {p:List Int} (R:RN n d p)
include R
theorem RN.W:WF n n.2.length d:=wk_wf R.ng _ _ (Nat.le_refl _) R.nw
theorem RN.fine:∀ k,k≤n.2.length→gr n d k=false
 | k,hk=>by
  have h:=R.nb
  unfold bad at h
  simp only [Bool.or_eq_false_iff] at h
  have hg:=h.1.1
  have:∀ j,gr n d (k+j)=false→gr n d k=false:=fun j=>by
   induction j with
   | zero=>exact id
   | succ j ih=>
    intro hh
    simp only [← Nat.add_assoc,gr,Bool.or_eq_false_iff] at hh
    exact ih hh.1.1
  exact this (n.2.length-k) (by rw [show k+(n.2.length-k)=n.2.length by omega];exact hg)
theorem RN.small (k:Nat) (hk:k<n.2.length):pc (ly n k) (dm d k)≤4096∧Fp (dm d (k+1))≤4096:=by
 have h:=R.fine (k+1) hk
 simp only [gr,Bool.or_eq_false_iff,decide_eq_false_iff_not] at h
 omega
theorem RN.in0:Fp n.1≤4096:=by
 have h:=R.nb
 unfold bad at h
 simp only [Bool.or_eq_false_iff,decide_eq_false_iff_not] at h
 omega
theorem RN.few:p.length≤4096:=by
 have h:=R.nb
 have e:=R.np
 unfold bad at h
 simp only [Bool.or_eq_false_iff,decide_eq_false_iff_not] at h
 omega
theorem RN.mono:∀ k,k≤n.2.length→mny n d k≤p.length:=fun k hk=>by
 rw [R.np]
 have hN:=R.nN
 have:∀ j,k+j≤n.2.length→mny n d k≤mny n d (k+j):=fun j=>by
  induction j with
  | zero=>exact fun _=>Int.le_refl _
  | succ j ih=>
   intro hh
   have h1:=ih (by omega)
   have hp:=pc_in ((Jq R.ng).2 (k+j) (by omega)) (R.W.wD (k+j) (by omega)) (R.W.fC (k+j) (by omega))
   have e:mny n d (k+(j+1))=mny n d (k+j)+pt (ly n (k+j)) (dm d (k+j)):=rfl
   omega
 have h:=this (n.2.length-k) (by omega)
 rw [show k+(n.2.length-k)=n.2.length by omega] at h
 exact h
theorem RN.pos (k:Nat) (hk:k≤n.2.length):0≤mny n d k:=(mny_in R.ng (by have:=R.nN;omega) R.W k hk).1
theorem RN.nxt (k:Nat) (hk:k<n.2.length):nx n k d=some (dm d (k+1)):=wk_nx _ _ R.nw k hk
theorem RN.len1:∀ k,k≤n.2.length→1≤(dm d k).length
 | 0,_=>by
  rw [R.W.w0]
  have h:=R.ng
  unfold gok at h
  cases hf:(fbad n).isSome
  ·rw [hf,cond_false] at h
   unfold iok at h
   by_cases e1:n.1.length=1
   ·omega
   ·rw [dF e1,cond_false] at h
    by_cases e2:n.1.length=2
    ·omega
    ·rw [dF e2] at h;exact absurd h (by simp)
  ·rw [hf] at h;exact absurd h (by simp)
 | k+1,hk=>by
  have ih:=RN.len1 k (by omega)
  have h:=R.nxt k hk
  unfold nx at h
  cases h1:kd F6 (ly n k)
  ·rw [h1,cond_false] at h
   cases h2:kd Gq (ly n k)
   ·rw [h2,cond_false] at h
    cases h3:kd Jg (ly n k)
    ·rw [h3,cond_false] at h
     cases h4:kd bSk (ly n k)
     ·rw [h4,cond_false] at h;injection h with h;rw [← h];exact ih
     ·rw [h4,cond_true] at h
      split at h
      ·injection h with h;rw [← h];exact ih
      ·exact absurd h (by simp)
    ·rw [h3,cond_true] at h
     split at h
     ·injection h with h;rw [← h];simp
     ·exact absurd h (by simp)
   ·rw [h2,cond_true] at h
    split at h
    ·injection h with h;rw [← h];simp
    ·exact absurd h (by simp)
  ·rw [h1,cond_true] at h;injection h with h;rw [← h];simp
end
structure RV (n:Nt) (d:List (List Int)) (k:Nat) (T:List Nd) (last frm:Nat) (L:List Int):Prop where
 vG:GL T
 vT:T.length≤1+6*k
 vl:last<T.length
 vd:(nd T last).1=dm d k
 vf:frm<T.length
 vp:1≤k→(nd T frm).1=dm d (k-1)
 vs:L.length≤2*k
def Lays (n:Nt) (d:List (List Int)) (p:List Int) (k:Nat) (T:List Nd) (last frm:Nat) (L:List Int):Prop:=
 ∃ (out:Nat) (T':List Nd) (L':List Int),f44 T 0 (p.drop (mny n d k).toNat) L (ly n k) (dm d k) (last:Int) (frm:Int)=some ((out:Int),0,p.drop (mny n d (k+1)).toNat,L',T')∧
  f22_j64 n p (frm:Int) (last:Int) (mny n d k) (k:Int) L T=some (0,mny n d (k+1),(out:Int),L',T')∧RV n d (k+1) T' out last L'
theorem rv_push {n:Nt} {d:List (List Int)} {k:Nat} {T:List Nd} {last frm:Nat} {L:List Int} (V:RV n d k T last frm L) (m:Nd) (hm:m.2.2.2.2.1=dm d (k+1)) (hG:GL (T++[m])):RV n d (k+1) (T++[m]) T.length last L:=by
 have h1:=V.vT
 have h2:=V.vl
 have h3:=V.vs
 exact ⟨hG,by simp only [List.length_append,List.length_cons,List.length_nil];omega,by simp,by rw [J6];exact hm,by simp only [List.length_append,List.length_cons,List.length_nil];omega,fun _=>by rw [Kd _ _ _ h2];exact V.vd,by omega⟩
section
variable {n:Nt} {d:List (List Int)} {p:List Int} (R:RN n d p) {k:Nat} (hk:k<n.2.length) {T:List Nd} {last frm:Nat} {L:List Int} (V:RV n d k T last frm L)
include R hk V
theorem RV.room:T.length+8<512:=by have:=V.vT;have:=R.nN;omega
theorem par_no (h1:kd F6 (ly n k)=false) (h2:kd Gq (ly n k)=false):f64 ((ly n k).1,(ly n k).2.1,(ly n k).2.2) (dm d k)=some []∧mny n d (k+1)=mny n d k:=by
 constructor
 ·unfold f64
  show (bif kd F6 (ly n k) then _ else bif kd Gq (ly n k) then _ else _)=_
  rw [h1,h2];rfl
 ·simp only [mny]
  unfold pt
  rw [h1,h2]
  simp only [cond_false];omega
theorem lay_bend (h4:kd bBn (ly n k)=true):Lays n d p k T last frm L:=by
 have h1:=kd_ne h4 (b:=F6) (by kernel_rfl)
 have h2:=kd_ne h4 (b:=Gq) (by kernel_rfl)
 have h3:=kd_ne h4 (b:=Jg) (by kernel_rfl)
 have h5:=kd_ne h4 (b:=bSk) (by kernel_rfl)
 obtain ⟨ep,em⟩:=par_no R hk V h1 h2
 have hr:=RV.room R hk V
 have hl:=(Jq R.ng).2 k hk
 have hA:1≤(ly n k).2.1∧(ly n k).2.1≤5:=by
  unfold lok at hl;rw [h1,h2,h3,h4] at hl;simp only [cond_false,cond_true] at hl;exact (of_decide_eq_true hl).1
 have hn:=R.nxt k hk
 unfold nx at hn
 rw [h1,h2,h3,h5] at hn
 simp only [cond_false] at hn
 injection hn with hn
 obtain ⟨m,e1,e2,e3,e4⟩:=push_bend (by omega) V.vG V.vl (ly n k).2.1 hA.1 hA.2
 refine ⟨T.length,T++[m],L,?_,?_,rv_push V m (by rw [e3,V.vd];exact hn) e4⟩
 ·unfold f44
  rw [ep,Bh,par0,Bh]
  show (bif kd F6 (ly n k) then _ else bif kd Gq (ly n k) then _ else bif kd Jg (ly n k) then _ else bif kd bBn (ly n k) then _ else _)=_
  rw [h1,h2,h3,h4,em]
  simp only [cond_false,cond_true]
  rw [doM e1,Bh]
 ·unfold f22_j64
  show (bif kd F6 (ly n k) then _ else bif kd Gq (ly n k) then _ else bif kd Jg (ly n k) then _ else bif kd bBn (ly n k) then Ey (f47 T 11 (last:Int) (-1) (ly n k).2.1) _ else _)=_
  rw [h1,h2,h3,h4,em]
  simp only [cond_false,cond_true]
  rw [e2,Bh]
theorem lay_pool (h3:kd Jg (ly n k)=true):Lays n d p k T last frm L:=by
 have h1:=kd_ne h3 (b:=F6) (by kernel_rfl)
 have h2:=kd_ne h3 (b:=Gq) (by kernel_rfl)
 obtain ⟨ep,em⟩:=par_no R hk V h1 h2
 have hr:=RV.room R hk V
 have hA:=lokP ((Jq R.ng).2 k hk) h3
 have hn:=R.nxt k hk
 unfold nx at hn
 rw [h1,h2,h3] at hn
 simp only [cond_false,cond_true] at hn
 split at hn
 ·rename_i hc
  injection hn with hn
  have e2':=two_of hc.1
  obtain ⟨m,e1,e2,e3,e4⟩:=push_pool (by omega) V.vG V.vl (rd (0:Int) (dm d k) 0) (rd (0:Int) (dm d k) 1) (ly n k).2.1 (by rw [V.vd];exact e2') hA.1 hc.2
  refine ⟨T.length,T++[m],L,?_,?_,rv_push V m (by rw [e3];exact hn) e4⟩
  ·unfold f44
   rw [ep,Bh,par0,Bh]
   show (bif kd F6 (ly n k) then _ else bif kd Gq (ly n k) then _ else bif kd Jg (ly n k) then _ else _)=_
   rw [h1,h2,h3,em]
   simp only [cond_false,cond_true]
   rw [doM e1,Bh]
  ·unfold f22_j64
   show (bif kd F6 (ly n k) then _ else bif kd Gq (ly n k) then _ else bif kd Jg (ly n k) then Ey (f47 T 13 (last:Int) (-1) (ly n k).2.1) _ else _)=_
   rw [h1,h2,h3,em]
   simp only [cond_false,cond_true]
   rw [e2,Bh]
 ·exact absurd hn (by simp)
theorem lay_skip (h1:kd F6 (ly n k)=false) (h2:kd Gq (ly n k)=false) (h3:kd Jg (ly n k)=false) (h4:kd bBn (ly n k)=false):Lays n d p k T last frm L:=by
 obtain ⟨ep,em⟩:=par_no R hk V h1 h2
 have hr:=RV.room R hk V
 have hl:=(Jq R.ng).2 k hk
 have h5:kd bSk (ly n k)=true:=by
  unfold lok at hl;rw [h1,h2,h3,h4] at hl
  cases h:kd bSk (ly n k)
  ·rw [h] at hl;exact absurd hl (by simp)
  ·rfl
 have hn:=R.nxt k hk
 unfold nx at hn
 rw [h1,h2,h3,h5] at hn
 simp only [cond_false,cond_true] at hn
 split at hn
 ·rename_i hc
  injection hn with hn
  obtain ⟨m,e1,e2,e3,e4⟩:=push_add (by omega) V.vG V.vf V.vl (by rw [V.vp (by omega),V.vd];exact hc.2.2)
  refine ⟨T.length,T++[m],L,?_,?_,rv_push V m (by rw [e3,V.vp (by omega),hc.2.2];exact hn) e4⟩
  ·unfold f44
   rw [ep,Bh,par0,Bh]
   show (bif kd F6 (ly n k) then _ else bif kd Gq (ly n k) then _ else bif kd Jg (ly n k) then _ else bif kd bBn (ly n k) then _ else _)=_
   rw [h1,h2,h3,h4,em]
   simp only [cond_false]
   rw [doM e1,Bh]
  ·unfold f22_j64
   show (bif kd F6 (ly n k) then _ else bif kd Gq (ly n k) then _ else bif kd Jg (ly n k) then _ else bif kd bBn (ly n k) then _ else _)=_
   rw [h1,h2,h3,h4,em]
   simp only [cond_false]
   rw [e2,Bh]
 ·exact absurd hn (by simp)
theorem lay_conv (h2:kd Gq (ly n k)=true):Lays n d p k T last frm L:=by
 have h1:=kd_ne h2 (b:=F6) (by kernel_rfl)
 have hr:=RV.room R hk V
 have hs:=V.vs
 have hN:=R.nN
 obtain ⟨⟨p1,p2⟩,p3,p4⟩:=lokC ((Jq R.ng).2 k hk) h2
 have hn:=R.nxt k hk
 unfold nx at hn
 rw [h1,h2] at hn
 simp only [cond_false,cond_true] at hn
 split at hn
 ·rename_i hc
  injection hn with hn
  have D:=R.W.wD k (by omega)
  have e2':=two_of hc.1
  obtain ⟨b0,b1⟩:=dd_rd D 0 (by omega)
  have b0':1≤rd (0:Int) (dm d k) 0:=b0
  have b1':rd (0:Int) (dm d k) 0≤1024:=b1
  obtain ⟨s1,s2⟩:=R.small k hk
  have epc:pc (ly n k) (dm d k)=(ly n k).2.1*rd (0:Int) (dm d k) 0*(ly n k).2.2:=by unfold pc;rw [h1,h2];rfl
  have ept:mny n d (k+1)=mny n d k+(ly n k).2.1*rd (0:Int) (dm d k) 0*(ly n k).2.2:=by simp only [mny];unfold pt;rw [h1,h2];rfl
  obtain ⟨m1,m2⟩:=Km p1 p2 b0' b1'
  obtain ⟨m3,m4⟩:=Km m1 m2 p3 p4
  have q0:=R.pos k (by omega)
  have q1:=R.mono (k+1) hk
  have qf:=R.few
  have hp:∀ x ∈ [(ly n k).2.1,rd (0:Int) (dm d k) 0,(ly n k).2.2],1≤x:=fun x hx=>by
   simp only [List.mem_cons,List.mem_nil_iff,or_false] at hx
   rcases hx with rfl | rfl | rfl <;> omega
  have eP:Fp [(ly n k).2.1,rd (0:Int) (dm d k) 0,(ly n k).2.2]=(ly n k).2.1*rd (0:Int) (dm d k) 0*(ly n k).2.2:=by simp only [Fp,Int.mul_one];rw [Int.mul_assoc]
  rw [epc] at s1
  have epr:=prd_of hp (by simp) (by rw [eP];exact s1)
  rw [eP] at epr
  have hlen:((p.drop (mny n d k).toNat).length:Int)=p.length-mny n d k:=by rw [List.length_drop];omega
  have gx:GoodT (([(ly n k).2.1,rd (0:Int) (dm d k) 0,(ly n k).2.2],(p.drop (mny n d k).toNat).take ((ly n k).2.1*rd (0:Int) (dm d k) 0*(ly n k).2.2).toNat):Tn):=
   ⟨tgood_of (by simp only;omega) (by simp only;rw [epr,List.length_take];omega),inI_take (inI_drop R.ni _) _⟩
  obtain ⟨w,a1,a2,a3,a4⟩:=push_leaf T _ (by omega) V.vG gx
  have hG1:=V.vl
  have hmul:(ly n k).2.1*(rd (0:Int) (dm d k) 1-(ly n k).2.2+1)≤4096:=by
   rw [← hn] at s2
   simpa only [Fp,Int.mul_one] using s2
  obtain ⟨m,e1,e2,e3,e4⟩:=push_row (l:=T++[w]) (by simp;omega) a4 (A:=last) (B:=T.length) (by simp;omega) (by simp) (rd (0:Int) (dm d k) 0) (rd (0:Int) (dm d k) 1) (ly n k).2.1 (ly n k).2.2
   (by rw [Kd _ _ _ V.vl,V.vd];exact e2') (by rw [J6];exact a3) p3 hc.2 p1 hmul
  have elen:(T++[w]).length=T.length+1:=by simp
  rw [elen] at e1 e2
  refine ⟨T.length+1,T++[w]++[m],L++[(T.length:Int)],?_,?_,⟨e4,by have:=V.vT;simp only [List.length_append,List.length_cons,List.length_nil];omega,by simp,by have:=J6 (T++[w]) m;rw [elen] at this;rw [this,e3];exact hn,by simp;omega,fun _=>by rw [Kd _ _ _ (by simp;omega),Kd _ _ _ V.vl];exact V.vd,by simp;omega⟩⟩
  ·have epar:f64 ((ly n k).1,(ly n k).2.1,(ly n k).2.2) (dm d k)=some [[(ly n k).2.1,rd (0:Int) (dm d k) 0,(ly n k).2.2]]:=by
    unfold f64
    show (bif kd F6 (ly n k) then _ else bif kd Gq (ly n k) then _ else _)=_
    rw [h1,h2]
    simp only [cond_false,cond_true]
    rw [D4]
   have e:=par1 (T:=T) (T1:=T++[w]) (P:=p.drop (mny n d k).toNat) (L:=L) (e:=[(ly n k).2.1,rd (0:Int) (dm d k) 0,(ly n k).2.2]) (i:=(T.length:Int)) hp (by rw [eP];exact s1) (by simp) (by rw [eP];omega) (by omega) (by rw [eP];exact a1)
   rw [eP] at e
   have edrop:(p.drop (mny n d k).toNat).drop ((ly n k).2.1*rd (0:Int) (dm d k) 0*(ly n k).2.2).toNat=p.drop (mny n d (k+1)).toNat:=by
    rw [List.drop_drop,ept];congr 1;omega
   rw [edrop] at e
   unfold f44
   rw [epar,Bh,e,Bh]
   show (bif kd F6 (ly n k) then _ else bif kd Gq (ly n k) then _ else _)=_
   rw [h1,h2]
   simp only [cond_false,cond_true]
   rw [doM e1,Bh]
  ·have eT:(rd (Ty.z (.p (.int .i64) (.p (.int .i64) (.p (.int .i64) (.p (.int .i64) (.p (.sl (.int .i64)) (.sl (.int .i64)))))))) T (last:Int)).2.2.2.2.1=dm d k:=V.vd
   have sl:=sl_eq p (mny n d k) ((ly n k).2.1*rd (0:Int) (dm d k) 0*(ly n k).2.2) q0 (by omega)
   have g3:(L.length+List.length [(T.length:Int)])*8≤140737488355328:=by simp only [List.length_cons,List.length_nil];omega
   unfold f22_j64
   rw [eT]
   show (bif kd F6 (ly n k) then _ else bif kd Gq (ly n k) then E9 _ (E9 _ (E9 (0≤mny n d k∧mny n d k≤IntKind.i64.wrap (mny n d k+IntKind.i64.wrap (IntKind.i64.wrap ((ly n k).2.1*rd (0:Int) (dm d k) 0)*(ly n k).2.2))∧IntKind.i64.wrap (mny n d k+IntKind.i64.wrap (IntKind.i64.wrap ((ly n k).2.1*rd (0:Int) (dm d k) 0)*(ly n k).2.2))≤(p.length:Int))
    (Ey (f46 T ([(ly n k).2.1,rd (0:Int) (dm d k) 0,(ly n k).2.2],List.drop (Int.toNat (mny n d k)) (List.take (Int.toNat (IntKind.i64.wrap (mny n d k+IntKind.i64.wrap (IntKind.i64.wrap ((ly n k).2.1*rd (0:Int) (dm d k) 0)*(ly n k).2.2)))) p))) fun q39_16=>Ey (f22_j72 (last:Int) q39_16) fun z178=>E9 _ (some (z178.1,IntKind.i64.wrap (mny n d k+IntKind.i64.wrap (IntKind.i64.wrap ((ly n k).2.1*rd (0:Int) (dm d k) 0)*(ly n k).2.2)),z178.2.1,L++[q39_16.1],z178.2.2))))) else _)=_
   rw [h1,h2]
   simp only [cond_false,cond_true]
   rw [Fl (n:=(ly n k).2.1*rd (0:Int) (dm d k) 0) (by omega) (by omega),Fl (n:=(ly n k).2.1*rd (0:Int) (dm d k) 0*(ly n k).2.2) (by omega) (by omega),Fl (n:=mny n d k+(ly n k).2.1*rd (0:Int) (dm d k) 0*(ly n k).2.2) (by omega) (by omega),
    D4,D4,D4,sl,a2,Bh]
   have ej:f22_j72 (last:Int) ((T.length:Int),(0:Int),T++[w])=some (0,((T.length+1:Nat):Int),T++[w]++[m]):=by
    unfold f22_j72
    simp only
    rw [bT rfl,cond_true,e2,Bh]
   rw [ej,Bh,D4 g3,ept]
 ·exact absurd hn (by simp)
end
end Go.Proofs.Cv

