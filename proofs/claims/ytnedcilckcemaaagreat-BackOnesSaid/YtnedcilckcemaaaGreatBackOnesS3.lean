import Derived.Test.YtnedcilckcemaaaGreatBackOnesS2
set_option linter.unusedVariables false
set_option maxRecDepth 100000
set_option maxHeartbeats 8000000
namespace Go.Proofs
open Go.AM
open IntKind (i64 u64 i32 u32 i16 u16 i8 u8)
def f130_j1 (x_:Int):Option Bool:=
 bif (decide (x_>(-4294967296:Int))) then
 some (decide (x_<4294967296))
 else
 some false
def f130 (kind x_:Int):Option Gm:=
 Ey (f130_j1 x_) fun z1=>
 bif (kind==1) then
 Ey (f155 (decide (x_>0)) (4294967296:Int) (0:Int)) fun r2=>
 some (r2,(0:Int))
 else
 bif (kind==2) then
 Ey (f155 (decide (x_>0)) (4294967296:Int) (536870912:Int)) fun r3=>
 some (r3,(0:Int))
 else
 bif (kind==3) then
 Ey (f155 z1 (4294967296:Int) (0:Int)) fun r4=>
 some (r4,(0:Int))
 else
 bif (kind==4) then
 Ey (f156 x_ (0:Int)) fun r5=>
 some ((i64.wrap (r5*4294967296)),(0:Int))
 else
 bif (kind==5) then
 Ey (f155 z1 (2147483648:Int) (0:Int)) fun r6=>
 some (r6,(0:Int))
 else
 some ((0:Int),(1:Int))
def C130:Con:=⟨Gm,Gm,0,fun x=>[.dat T2 x.1,.dat T2 x.2],NX,fun x=>f130 x.1 x.2,fun y=>[.dat T2 y.1,.dat T2 y.2],NX,0⟩
theorem V130 kind x_ y (q:f130 kind x_=some y):VC Tryz.f130 C130 (kind,x_) y:=by
 unfold f130 at q
 refine OL ?_
 obtain ⟨z1,hz1,q⟩:=bE q
 refine OQ ⟨[(0,⟨[(0,.dat T2 kind),(1,.dat T2 x_),(6,.dat .bool z1)],[],0⟩)],?_,?_⟩
 ·have q:=hz1
  clear hz1
  unfold f130_j1 at q
  refine cI q (fun q=>?_) (fun q=>?_)
  ·refine gX (cT ?_)
   cases sE q
   refine E4 [] (R4 (AI TV TV))
  refine gM (cF ?_)
  cases sE q
  refine E4 [] (R4 (AI TV TV))
 refine AI (OL (OL (OL (cI q (fun q=>?_) (fun q=>?_))))) TV
 ·refine OL ?_
  obtain ⟨r2,h,q⟩:=bE q
  refine OL (cA H155 ((decide (x_>0)),(4294967296:Int),(0:Int)) h rfl (R3 (K0 ?_)))
  cases sE q
  refine AI rfl (E4 [] (R3 (AI TV TV)))
 refine OL (cI q (fun q=>?_) (fun q=>?_))
 ·refine OL ?_
  obtain ⟨r3,h,q⟩:=bE q
  refine OL (cA H155 ((decide (x_>0)),(4294967296:Int),(536870912:Int)) h rfl (R3 (K0 ?_)))
  cases sE q
  refine AI rfl (E4 [] (R3 (AI TV TV)))
 refine OL (cI q (fun q=>?_) (fun q=>?_))
 ·refine OL ?_
  obtain ⟨r4,h,q⟩:=bE q
  refine OL (cA H155 (z1,(4294967296:Int),(0:Int)) h rfl (R3 (K0 ?_)))
  cases sE q
  refine AI rfl (E4 [] (R3 (AI TV TV)))
 refine OL (cI q (fun q=>?_) (fun q=>?_))
 ·refine OL ?_
  obtain ⟨r5,h,q⟩:=bE q
  refine OL (cA H156 (x_,(0:Int)) h rfl (R2 (K0 ?_)))
  cases sE q
  refine AI rfl (E4 [] (R3 (AI TV TV)))
 refine OL (cI q (fun q=>?_) (fun q=>?_))
 ·refine OL ?_
  obtain ⟨r6,h,q⟩:=bE q
  refine OL (cA H155 (z1,(2147483648:Int),(0:Int)) h rfl (R3 (K0 ?_)))
  cases sE q
  refine AI rfl (E4 [] (R3 (AI TV TV)))
 cases sE q
 refine OL (AI rfl (E4 [] (R3 (AI TV TV))))
theorem H130:HI C130 130:=hI Tryz.f130 rfl fun x=>V130 x.1 x.2
def f78_j3 (kind:Int) (t g:Fx):Option Bool:=
 Ey (f129 kind) fun r13=>
 bif (!r13) then
 some true
 else
 Ey (f28 (t.1,t.2)) fun r14=>
 bif (!r14) then
 some true
 else
 Ey (f28 (g.1,g.2)) fun r15=>
 some (!r15)
def f78_j2 (kind:Int) (t g:Fx):Option (Sum Unit Int):=
 Ey (f78_j3 kind t g) fun z12=>
 bif z12 then
 some (Sum.inr (1:Int))
 else
 Ey (f29 t.1 g.1) fun r16=>
 bif (!r16) then
 some (Sum.inr (4:Int))
 else
 some (Sum.inl ())
def f78_l4 (kind:Int) (t g:Fx) (go:Jv→Option LI) (v41:Int) (l4:LI):Option LI:=
 bif (decide (v41<t.2.length)) then
 E9 (0≤v41∧v41<t.2.length)<|
 Ey (f130 kind (rd 0 t.2 v41)) fun q10_11=>
 E9 (0≤v41∧v41<g.2.length)<|
 Ey (f116 (rd 0 g.2 v41) q10_11.1) fun q10_9=>
 E9 (0≤v41∧v41<l4.length)<|
 go ((i64.wrap (v41+1)),(List.set l4 (Int.toNat v41) q10_9))
 else
 some l4
def f78 (kind:Int) (t g:Fx):Option Gl:=
 Ey (f78_j2 kind t g) fun z8=>
 Fz z8 (fun z8a=>
 Ey (f48 (g.1,g.2)) fun r17=>
 Ey (Fp (fun go x=>f78_l4 kind t g go x.1 x.2) Fv ((0:Int),r17.2)) fun z19=>
 some ((0:Int),r17.1,z19)) (fun z8b=>
 some (z8b,[],[]))
def C78:Con:=⟨Int×PTz10,Gl,0,fun x=>[.dat T2 x.1,.dat T3 x.2.1,.dat T3 x.2.2],NX,fun x=>f78 x.1 x.2.1 x.2.2,fun y=>[.raw true [(.osl 0),(.osl 1)],.dat T2 y.1],fun y=>[(0,.arr 3 T2 y.2.1),(1,.arr 42 T2 y.2.2)],2⟩
theorem V78 kind t g y (q:f78 kind t g=some y):VC Tryz.f78 C78 (kind,t,g) y:=by
 unfold f78 at q
 refine OL ?_
 obtain ⟨z8,hz8,q⟩:=bE q
 let h0:LH:=fun zz=>(0,.cells [(.d T1 t.1),(.d T1 t.2)])::(1,.cells [(.d T1 g.1),(.d T1 g.2)])::(2,.cells [N0,N0])::zz
 refine OQ ⟨Sum.elim (fun z8a=>[(0,⟨[(0,.dat T2 kind),(4,P0 0 0),(5,P0 1 0),(6,P0 2 0)],h0 [],3⟩)]) (fun z8b=>[(1,⟨[(6,P0 0 0),(7,.dat T2 z8b)],[(0,.cells [N0,N0])],1⟩)]) z8,?_,?_⟩
 ·have q:=hz8
  clear hz8
  unfold f78_j2 at q
  obtain ⟨z12,hz12,q⟩:=bE q
  refine OQ ⟨[(0,⟨[(0,.dat T2 kind),(4,P0 0 0),(5,P0 1 0),(6,P0 2 0),(13,.dat .bool z12)],h0 [],3⟩)],?_,?_⟩
  ·have q:=hz12
   clear hz12
   unfold f78_j3 at q
   obtain ⟨r13,h,q⟩:=bE q
   refine OL (cA H129 kind h rfl (AI rfl (K0 (cN q (fun q=>?_) (fun q=>?_)))))
   ·refine gY ?_
    obtain ⟨r14,h,q⟩:=bE q
    refine OL (cA H28 (t.1,t.2) h rfl (R2 (K0 (gY (cF (cN q (fun q=>?_) (fun q=>?_)))))))
    ·refine gY ?_
     obtain ⟨r15,h,q⟩:=bE q
     refine OL (cA H28 (g.1,g.2) h rfl (R2 (K0 (gY (cF ?_)))))
     cases sE q
     refine E4 I3 (R3 (AI (R3 TV) (R3 TV)))
    refine gN (gN (cT ?_))
    cases sE q
    refine E4 I3 (R3 (AI (R3 TV) (R3 TV)))
   refine gN (gN (cT (gN (gN (gN (cT ?_))))))
   cases sE q
   refine E4 I3 (R3 (AI (R3 TV) (R3 TV)))
  refine AI (cI q (fun q=>?_) (fun q=>?_)) TV
  ·refine OL (OL ?_)
   cases sE q
   refine E4 (iuR [3]) (R2 (AJ (AI rfl TV)))
  refine OL ?_
  obtain ⟨r16,h,q⟩:=bE q
  refine OL (cA H29 (t.1,g.1) h rfl (R2 (K0 (cI q (fun q=>?_) (fun q=>?_)))))
  ·refine OL (OL ?_)
   cases sE q
   refine E4 (iuR [3]) (R2 (AJ (AI rfl TV)))
  cases sE q
  refine E4 I3 (R2 (AI (R3 TV) (R3 TV)))
 rcases z8 with z8a | z8b
 ·dsimp only [Fz] at q
  refine AI (OL ?_) TV
  obtain ⟨r17,h,q⟩:=bE q
  refine OL (cA H48 (g.1,g.2) h rfl (R2 (K0 (OL (OL (OL ?_))))))
  obtain ⟨z19,h,q⟩:=bE q
  refine lJ h (fun x=>⟨[(0,.dat T2 kind),(5,P0 0 0),(6,P0 1 0),(8,P0 2 0),(39,.dat T1 t.2),(40,.dat T2 (t.2.length:Int)),(41,.dat T2 x.1)],[(0,.cells [(.d T1 g.1),(.d T1 g.2)]),(1,.cells [N0,N0]),(2,.cells [(.osl 3),(.osl 4)]),(3,.arr 3 T2 r17.1),(4,.arr 42 T2 x.2)],5⟩) (fun z=>[(3,⟨[(6,P0 0 0),(8,P0 1 0)],[(0,.cells [N0,N0]),(1,.cells [(.osl 2),(.osl 3)]),(2,.arr 3 T2 r17.1),(3,.arr 42 T2 z)],4⟩)]) (E4 (iuR [2,3,6,4,5]) (R5 (AI (R3 TV) (R5 TV)))) (fun m=>F6 (fun v41=>fun l4 z q=>?_)) ?_
  ·have q:f78_l4 kind t g _ v41 l4=some z:=q
   unfold f78_l4 at q
   refine OL (OL (cI q (fun q=>?_) (fun q=>?_)))
   ·refine OL (OL (gI q (fun q=>?_)))
    refine OL ?_
    obtain ⟨q10_11,h,q⟩:=bE q
    refine OL (cA H130 (kind,(rd 0 t.2 v41)) h rfl (R2 (K0 (EI (tU 0 9 (.alt 9 (.take 10 (.alt 11 .done .done)) .done)) (EI [] (EI [] (AI rfl (gI q (fun q=>?_)))))))))
    refine AI TV ?_
    obtain ⟨q10_9,h,q⟩:=bE q
    refine OL (cA H116 ((rd 0 g.2 v41),q10_11.1) h rfl (R2 (K0 (gI q (fun q=>?_)))))
    refine AI TV (OL (EI ((i64.wrap (v41+1)),(List.set l4 (Int.toNat v41) q10_9)) (AI q (E4 I5 (R5 (AI (R3 TV) (R5 TV)))))))
   cases sE q
   refine E4 (iuR [2,3,4,5]) (AI rfl (AI (R2 TV) (R4 TV)))
  refine AI (OL (OL ?_)) TV
  cases sE q
  refine AI rfl (E4 (iuR [3,4]) (R2 (AJ (R2 TV))))
 dsimp only [Fz] at q
 refine AI ?_ TV
 cases sE q
 refine AI rfl (E4 (iuR [0,0]) (R2 (AJ (R2 TV))))
theorem H78:HI C78 78:=hI Tryz.f78 rfl fun x=>V78 x.1 x.2.1 x.2.2
def f132 (n:Int):Option Bool:=
 bif (decide (n≥1)) then
 some (decide (n≤4096))
 else
 some false
def C132:Con:=⟨Int,Bool,0,fun x=>[.dat T2 x],NX,fun x=>f132 x,fun y=>[.dat .bool y],NX,0⟩
theorem V132 n y (q:f132 n=some y):VC Tryz.f132 C132 n y:=by
 unfold f132 at q
 refine OL (OL (cI q (fun q=>?_) (fun q=>?_)))
 ·refine gX (cT ?_)
  cases sE q
  refine AI rfl (E4 [] (R2 (AI TV TV)))
 refine gM (cF ?_)
 cases sE q
 refine AI rfl (E4 [] (R2 (AI TV TV)))
theorem H132:HI C132 132:=hI Tryz.f132 rfl fun x=>V132 x
def f79_j4 (g k:Fx) (step long:Int):Option Bool:=
 Ey (f28 (g.1,g.2)) fun r15=>
 bif (!r15) then
 some true
 else
 Ey (f28 (k.1,k.2)) fun r16=>
 bif (!r16) then
 some true
 else
 Ey (f131 step) fun r17=>
 bif (!r17) then
 some true
 else
 Ey (f132 long) fun r18=>
 some (!r18)
def f79_j5 (g k:Fx) (step long:Int):Option Bool:=
 bif ((g.1.length:Int) != 2) then
 some true
 else
 bif ((k.1.length:Int) != 3) then
 some true
 else
 E9 (0≤(0:Int)∧0<(k.1.length:Int))<|
 E9 (0≤(0:Int)∧0<(g.1.length:Int))<|
 bif ((rd 0 k.1 0) != (rd 0 g.1 0)) then
 some true
 else
 E9 (0≤(2:Int)∧2<(k.1.length:Int))<|
 E9 (0≤(1:Int)∧1<(g.1.length:Int))<|
 Ey (f133 long (rd 0 k.1 2) step) fun q3_28=>
 some (q3_28 != (rd 0 g.1 1))
def f79_j3 (g k:Fx) (step long:Int):Option (Sum Unit Int):=
 Ey (f79_j4 g k step long) fun z14=>
 bif z14 then
 some (Sum.inr (1:Int))
 else
 Ey (f79_j5 g k step long) fun z19=>
 bif z19 then
 some (Sum.inr (4:Int))
 else
 some (Sum.inl ())
def f79_j45 (g:Fx) (step long v110 v127:Int):Option Bool:=
 E9 (step≠0)<|
 bif ((Int.tmod (i64.wrap ((Int.tmod v110 long)-v127)) step)==0) then
 some (decide ((i64.wrap (Int.tdiv (i64.wrap ((Int.tmod v110 long)-v127)) step))<(rd 0 g.1 1)))
 else
 some false
def f79_l44 (g k:Fx) (step long v110 v120:Int) (go:PTz2→Option PTz7) (v127 c4_0_2 c4_1_2 c4_2_2:Int):Option PTz7:=
 bif (decide (v127<(if (i64.wrap ((Int.tmod v110 long)+1))<(rd 0 k.1 2) then (i64.wrap ((Int.tmod v110 long)+1)) else (rd 0 k.1 2)))) then
 E9 (step≠0)<|
 Ey (f79_j45 g step long v110 v127) fun z59=>
 bif z59 then
 E9 (0≤(i64.wrap ((i64.wrap (v120*(rd 0 g.1 1)))+(i64.wrap (Int.tdiv (i64.wrap ((Int.tmod v110 long)-v127)) step))))∧(i64.wrap ((i64.wrap (v120*(rd 0 g.1 1)))+(i64.wrap (Int.tdiv (i64.wrap ((Int.tmod v110 long)-v127)) step))))<g.2.length)<|
 E9 (0≤(i64.wrap ((i64.wrap ((i64.wrap ((i64.wrap (v120*(rd 0 k.1 1)))+(i64.wrap (Int.tdiv v110 long))))*(rd 0 k.1 2)))+v127))∧(i64.wrap ((i64.wrap ((i64.wrap ((i64.wrap (v120*(rd 0 k.1 1)))+(i64.wrap (Int.tdiv v110 long))))*(rd 0 k.1 2)))+v127))<k.2.length)<|
 Ey (f135 c4_0_2 c4_1_2 c4_2_2 (rd 0 g.2 (i64.wrap ((i64.wrap (v120*(rd 0 g.1 1)))+(i64.wrap (Int.tdiv (i64.wrap ((Int.tmod v110 long)-v127)) step))))) (rd 0 k.2 (i64.wrap ((i64.wrap ((i64.wrap ((i64.wrap (v120*(rd 0 k.1 1)))+(i64.wrap (Int.tdiv v110 long))))*(rd 0 k.1 2)))+v127)))) fun q22_22=>
 go ((i64.wrap (v127+1)),q22_22.1,q22_22.2.1,q22_22.2.2)
 else
 go ((i64.wrap (v127+1)),c4_0_2,c4_1_2,c4_2_2)
 else
 some (c4_0_2,c4_1_2,c4_2_2)
def f79_l41 (g k:Fx) (step long v110:Int) (go:PTz2→Option PTz7) (v120 c4_0 c4_1 c4_2:Int):Option PTz7:=
 bif (decide (v120<(rd 0 k.1 0))) then
 Ey (Fp (fun go x=>f79_l44 g k step long v110 v120 go x.1 x.2.1 x.2.2.1 x.2.2.2) Fv ((0:Int),c4_0,c4_1,c4_2)) fun z58=>
 go ((i64.wrap (v120+1)),z58.1,z58.2.1,z58.2.2)
 else
 some (c4_0,c4_1,c4_2)
def f79_l32 (g k:Fx) (step long:Int) (q5_19:Gl) (go:Jv→Option LI) (v110:Int) (l5:LI):Option LI:=
 bif (decide (v110<q5_19.2.2.length)) then
 E9 (long≠0)<|
 E9 (long≠0)<|
 Ey (Fp (fun go x=>f79_l41 g k step long v110 go x.1 x.2.1 x.2.2.1 x.2.2.2) Fv ((0:Int),(0:Int),(0:Int),(0:Int))) fun z55=>
 Ey (f136 z55.1 z55.2.1 z55.2.2 (32:Int)) fun q25_3=>
 E9 (0≤v110∧v110<l5.length)<|
 go ((i64.wrap (v110+1)),(List.set l5 (Int.toNat v110) q25_3.1))
 else
 some l5
def f79 (g k:Fx) (step long:Int):Option Gl:=
 Ey (f79_j3 g k step long) fun z10=>
 Fz z10 (fun z10a=>
 E9 (0≤(0:Int)∧0<(k.1.length:Int))<|
 E9 (0≤(1:Int)∧1<(k.1.length:Int))<|
 E9 (0≤(2:Int)∧2<(k.1.length:Int))<|
 E9 (0≤(1:Int)∧1<(g.1.length:Int))<|
 Ey (f134 ([(rd 0 k.1 1),long])) fun q5_19=>
 bif (q5_19.1 != 0) then
 some (q5_19.1,[],[])
 else
 Ey (Fp (fun go x=>f79_l32 g k step long q5_19 go x.1 x.2) Fv ((0:Int),q5_19.2.2)) fun z46=>
 some ((0:Int),q5_19.2.1,z46)) (fun z10b=>
 some (z10b,[],[]))
def C79:Con:=⟨Fx×Fx×Gm,Gl,0,fun x=>[.dat T3 x.1,.dat T3 x.2.1,.dat T2 x.2.2.1,.dat T2 x.2.2.2],NX,fun x=>f79 x.1 x.2.1 x.2.2.1 x.2.2.2,fun y=>[.raw true [(.osl 0),(.osl 1)],.dat T2 y.1],fun y=>[(0,.arr 3 T2 y.2.1),(1,.arr 42 T2 y.2.2)],2⟩
theorem V79 g k step long y (q:f79 g k step long=some y):VC Tryz.f79 C79 (g,k,step,long) y:=by
 unfold f79 at q
 refine OL ?_
 obtain ⟨z10,hz10,q⟩:=bE q
 let e0:LE:=fun zz=>(2,.dat T2 step)::(3,.dat T2 long)::(4,P0 0 0)::(5,P0 1 0)::(8,P0 2 0)::zz
 let h1:LH:=fun zz=>(0,.cells [(.d T1 g.1),(.d T1 g.2)])::(1,.cells [(.d T1 k.1),(.d T1 k.2)])::(2,.cells [N0,N0])::zz
 refine OQ ⟨Sum.elim (fun z10a=>[(0,⟨e0 [],h1 [],3⟩)]) (fun z10b=>[(1,⟨[(8,P0 0 0),(9,.dat T2 z10b)],[(0,.cells [N0,N0])],1⟩)]) z10,?_,?_⟩
 ·have q:=hz10
  clear hz10
  unfold f79_j3 at q
  obtain ⟨z14,hz14,q⟩:=bE q
  refine OQ ⟨[(0,⟨e0 [(23,.dat .bool z14)],h1 [],3⟩)],?_,?_⟩
  ·have q:=hz14
   clear hz14
   unfold f79_j4 at q
   obtain ⟨r15,h,q⟩:=bE q
   refine OL (cA H28 (g.1,g.2) h rfl (R2 (K0 (cN q (fun q=>?_) (fun q=>?_)))))
   ·refine gY ?_
    obtain ⟨r16,h,q⟩:=bE q
    refine OL (cA H28 (k.1,k.2) h rfl (R2 (K0 (gY (cF (cN q (fun q=>?_) (fun q=>?_)))))))
    ·refine gY ?_
     obtain ⟨r17,h,q⟩:=bE q
     refine OL (cA H131 step h rfl (AI rfl (K0 (gY (cF (cN q (fun q=>?_) (fun q=>?_)))))))
     ·refine gY ?_
      obtain ⟨r18,h,q⟩:=bE q
      refine OL (cA H132 long h rfl (AI rfl (K0 (gY (cF ?_)))))
      cases sE q
      refine E4 I3 (R4 (AI (R3 TV) (R3 TV)))
     refine gN (gN (cT ?_))
     cases sE q
     refine E4 I3 (R4 (AI (R3 TV) (R3 TV)))
    refine gN (gN (cT (gN (gN (gN (cT ?_))))))
    cases sE q
    refine E4 I3 (R4 (AI (R3 TV) (R3 TV)))
   refine gN (gN (cT (gN (gN (gN (cT (gN (gN (gN (cT ?_))))))))))
   cases sE q
   refine E4 I3 (R4 (AI (R3 TV) (R3 TV)))
  refine AI (cI q (fun q=>?_) (fun q=>?_)) TV
  ·refine OL (OL ?_)
   cases sE q
   refine E4 (iuR [3]) (R2 (AJ (AI rfl TV)))
  obtain ⟨z19,hz19,q⟩:=bE q
  refine OQ ⟨[(0,⟨e0 [(43,.dat .bool z19)],h1 [],3⟩)],?_,?_⟩
  ·have q:=hz19
   clear hz19
   unfold f79_j5 at q
   refine EI (tU 0 28 (tU 29 4 (.alt 28 (tU 33 3 .done) .done))) (EI [] (EI [] (AI rfl (cN q (fun q=>?_) (fun q=>?_)))))
   ·refine gY (gY (gY (cF (cN q (fun q=>?_) (fun q=>?_)))))
    ·refine gY (gY (gI q (fun q=>?_)))
     refine gY (gY (gY (gY (gI q (fun q=>?_)))))
     refine gY (gY (cF (cN q (fun q=>?_) (fun q=>?_))))
     ·refine gY (gY (gY (gI q (fun q=>?_))))
      refine gY (gY (gY (gY (gY (gI q (fun q=>?_))))))
      refine gY (AI TV (gY ?_))
      obtain ⟨q3_28,h,q⟩:=bE q
      refine OL (cA H133 (long,(rd 0 k.1 2),step) h rfl (R3 (K0 (gY (cF ?_)))))
      cases sE q
      refine E4 I3 (R4 (AI (R3 TV) (R3 TV)))
     refine gN (gN (gN (gN (gN (gN (gN (gN (gN (AI TV (gN (gN (cT ?_))))))))))))
     cases sE q
     refine E4 I3 (R4 (AI (R3 TV) (R3 TV)))
    refine gN (gN (gN (gN (gN (gN (gN (gN (cT (gN (gN (gN (gN (gN (gN (gN (gN (gN (gN (AI TV (gN (gN (cT ?_))))))))))))))))))))))
    cases sE q
    refine E4 I3 (R4 (AI (R3 TV) (R3 TV)))
   refine gN (gN (gN (cT (gN (gN (gN (gN (gN (gN (gN (gN (gN (cT (gN (gN (gN (gN (gN (gN (gN (gN (gN (gN (AI TV (gN (gN (cT ?_)))))))))))))))))))))))))))
   cases sE q
   refine E4 I3 (R4 (AI (R3 TV) (R3 TV)))
  refine AI (cI q (fun q=>?_) (fun q=>?_)) TV
  ·refine OL (OL ?_)
   cases sE q
   refine E4 (iuR [3]) (R2 (AJ (AI rfl TV)))
  cases sE q
  refine E4 I3 (R3 (AI (R3 TV) (R3 TV)))
 rcases z10 with z10a | z10b
 ·dsimp only [Fz] at q
  refine AI (OL (EI (tU 0 20 .done) (EI [] (EI [] (AI rfl (gI q (fun q=>?_))))))) TV
  refine gI q (fun q=>?_)
  refine gI q (fun q=>?_)
  refine gI q (fun q=>?_)
  refine OL (OL ?_)
  obtain ⟨q5_19,h,q⟩:=bE q
  refine OL (cD H134 [(rd 0 k.1 1),long] h rfl (AI rfl (AI (fun _=>rfl) (R2 (AI TV (AI TV (OL (OL (OL (cI q (fun q=>?_) (fun q=>?_)))))))))))
  ·refine OL (OL ?_)
   cases sE q
   refine AI rfl (E4 (iuR [0,0]) (R2 (AJ (R2 TV))))
  refine OL (OL ?_)
  obtain ⟨z46,hz46,q⟩:=bE q
  let e2:LE:=fun zz=>e0 ((10,.dat T2 (rd 0 k.1 0))::(11,.dat T2 (rd 0 k.1 1))::(12,.dat T2 (rd 0 k.1 2))::(13,.dat T2 (rd 0 g.1 1))::(14,P0 3 0)::zz)
  refine lJ hz46 (fun x=>⟨e2 [(109,.dat T2 (q5_19.2.2.length:Int)),(110,.dat T2 x.1)],h1 [(3,.cells [(.osl 4),(.osl 5)]),(4,.arr 3 T2 q5_19.2.1),(5,.arr 42 T2 x.2)],6⟩) (fun z=>[(3,⟨[(8,P0 0 0),(14,P0 1 0)],[(0,.cells [N0,N0]),(1,.cells [(.osl 2),(.osl 3)]),(2,.arr 3 T2 q5_19.2.1),(3,.arr 42 T2 z)],4⟩)]) (E4 (iuR [1,2,3,7,5,6]) (R9 (AI (R4 TV) (R6 TV)))) (fun m=>F6 (fun v110=>fun l5 z q=>?_)) ?_
  ·have q:f79_l32 g k step long q5_19 _ v110 l5=some z:=q
   unfold f79_l32 at q
   refine OL (OL (cI q (fun q=>?_) (fun q=>?_)))
   ·refine OL (OL (OL (EI (tU 0 8 .done) (EI [] (EI [] (AI rfl (gI q (fun q=>?_))))))))
    refine gI q (fun q=>?_)
    refine OL (OL (OL ?_))
    obtain ⟨z55,hz55,q⟩:=bE q
    let e3:LE:=fun zz=>e2 ((16,.dat T2 v110)::zz)
    let e4:LE:=fun zz=>e3 ((17,.dat T2 (i64.wrap (Int.tdiv v110 long)))::(18,.dat T2 (Int.tmod v110 long))::(19,P0 4 0)::zz)
    let e5:LE:=fun zz=>e4 ((109,.dat T2 (q5_19.2.2.length:Int))::(110,.dat T2 v110)::(119,.dat T2 (rd 0 k.1 0))::zz)
    let h6:LH:=fun zz=>h1 ((3,.cells [(.osl 5),(.osl 6)])::zz)
    refine lJ hz55 (fun x=>⟨e5 [(120,.dat T2 x.1)],h6 [(4,.cells [(.d T2 x.2.1),(.d T2 x.2.2.1),(.d T4 x.2.2.2)]),(5,.arr 3 T2 q5_19.2.1),(6,.arr 42 T2 l5)],7⟩) (fun z=>[(5,⟨e3 [(19,P0 4 0),(109,.dat T2 (q5_19.2.2.length:Int)),(110,.dat T2 v110)],h6 [(4,.cells [(.d T2 z.1),(.d T2 z.2.1),(.d T4 z.2.2)]),(5,.arr 3 T2 q5_19.2.1),(6,.arr 42 T2 l5)],7⟩)]) (E4 (iuR [1,2,3,4,7,5,6]) (R14 (AI (R5 TV) (R7 TV)))) (fun m=>F6 (fun v120=>F6 (fun c4_0=>F6 (fun c4_1=>fun c4_2 z q=>?_)))) ?_
    ·have q:f79_l41 g k step long v110 _ v120 c4_0 c4_1 c4_2=some z:=q
     unfold f79_l41 at q
     refine OL (OL (cI q (fun q=>?_) (fun q=>?_)))
     ·refine OL (OL (OL ?_))
      obtain ⟨z58,h,q⟩:=bE q
      refine lJ h (fun x=>⟨e4 [(20,.dat T2 v120),(109,.dat T2 (q5_19.2.2.length:Int)),(110,.dat T2 v110),(119,.dat T2 (rd 0 k.1 0)),(120,.dat T2 v120),(126,.dat T2 (if (i64.wrap ((Int.tmod v110 long)+1))<(rd 0 k.1 2) then (i64.wrap ((Int.tmod v110 long)+1)) else (rd 0 k.1 2))),(127,.dat T2 x.1)],h6 [(4,.cells [(.d T2 x.2.1),(.d T2 x.2.2.1),(.d T4 x.2.2.2)]),(5,.arr 3 T2 q5_19.2.1),(6,.arr 42 T2 l5)],7⟩) (fun z=>[(7,⟨e5 [(120,.dat T2 v120)],h6 [(4,.cells [(.d T2 z.1),(.d T2 z.2.1),(.d T4 z.2.2)]),(5,.arr 3 T2 q5_19.2.1),(6,.arr 42 T2 l5)],7⟩)]) (E4 I7 (R17 (AI (R5 TV) (R7 TV)))) (fun m=>F6 (fun v127=>F6 (fun c4_0_2=>F6 (fun c4_1_2=>fun c4_2_2 z q=>?_)))) ?_
      ·have q:f79_l44 g k step long v110 v120 _ v127 c4_0_2 c4_1_2 c4_2_2=some z:=q
       unfold f79_l44 at q
       refine OL (OL (cI q (fun q=>?_) (fun q=>?_)))
       ·refine OL (OL (OL (gI q (fun q=>?_))))
        obtain ⟨z59,hz59,q⟩:=bE q
        refine OQ ⟨[(0,⟨e4 [(20,.dat T2 v120),(21,.dat T2 v127),(22,.dat T2 (i64.wrap (Int.tdiv (i64.wrap ((Int.tmod v110 long)-v127)) step))),(109,.dat T2 (q5_19.2.2.length:Int)),(110,.dat T2 v110),(119,.dat T2 (rd 0 k.1 0)),(120,.dat T2 v120),(126,.dat T2 (if (i64.wrap ((Int.tmod v110 long)+1))<(rd 0 k.1 2) then (i64.wrap ((Int.tmod v110 long)+1)) else (rd 0 k.1 2))),(127,.dat T2 v127),(145,.dat .bool z59)],h6 [(4,.cells [(.d T2 c4_0_2),(.d T2 c4_1_2),(.d T4 c4_2_2)]),(5,.arr 3 T2 q5_19.2.1),(6,.arr 42 T2 l5)],7⟩)],?_,?_⟩
        ·have q:=hz59
         clear hz59
         unfold f79_j45 at q
         refine gI q (fun q=>?_)
         refine cI q (fun q=>?_) (fun q=>?_)
         ·refine gX (gX (cT ?_))
          cases sE q
          refine E4 I7 (R20 (AI (R5 TV) (R7 TV)))
         refine gM (gM (cF ?_))
         cases sE q
         refine E4 I7 (R20 (AI (R5 TV) (R7 TV)))
        refine AI (cI q (fun q=>?_) (fun q=>?_)) TV
        ·refine EI (tU 0 22 (.alt 22 .done .done)) (EI [] (EI [] (AI rfl (gI q (fun q=>?_)))))
         refine gI q (fun q=>?_)
         refine AI TV ?_
         obtain ⟨q22_22,h,q⟩:=bE q
         refine OL (cB H135 (c4_0_2,c4_1_2,c4_2_2,(rd 0 g.2 (i64.wrap ((i64.wrap (v120*(rd 0 g.1 1)))+(i64.wrap (Int.tdiv (i64.wrap ((Int.tmod v110 long)-v127)) step))))),(rd 0 k.2 (i64.wrap ((i64.wrap ((i64.wrap ((i64.wrap (v120*(rd 0 k.1 1)))+(i64.wrap (Int.tdiv v110 long))))*(rd 0 k.1 2)))+v127)))) (iuR [5]) false h rfl (R2 (AI NH (R2 (AJ (AJ (EI ((i64.wrap (v127+1)),q22_22.1,q22_22.2.1,q22_22.2.2) (AI q (E4 I7 (R17 (AI (R5 TV) (R7 TV))))))))))))
        refine EI ((i64.wrap (v127+1)),c4_0_2,c4_1_2,c4_2_2) (AI q (E4 I7 (R17 (AI (R5 TV) (R7 TV)))))
       cases sE q
       refine E4 I7 (R14 (AI (R5 TV) (R7 TV)))
      refine AI (EI ((i64.wrap (v120+1)),z58.1,z58.2.1,z58.2.2) (AI q (E4 I7 (R14 (AI (R5 TV) (R7 TV)))))) TV
     cases sE q
     refine E4 I7 (R10 (AI (R5 TV) (R7 TV)))
    refine AI (EI (tU 0 3 (.alt 3 (.take 4 (.alt 5 .done .done)) .done)) (EI [] (EI [] (AI rfl (AI TV ?_))))) TV
    obtain ⟨q25_3,h,q⟩:=bE q
    refine OL (cB H136 (z55.1,z55.2.1,z55.2.2,(32:Int)) (iuR [5]) false h rfl (AI rfl (AI NH (R2 (AJ (AJ (gI q (fun q=>?_))))))))
    refine AI TV (OL (EI ((i64.wrap (v110+1)),(List.set l5 (Int.toNat v110) q25_3.1)) (AI q (E4 (iuR [1,2,3,4,6,7]) (R9 (AI (R4 TV) (R6 TV)))))))
   cases sE q
   refine E4 (iuR [3,4,5,6]) (AI rfl (AI (R2 TV) (R4 TV)))
  refine AI (OL (OL ?_)) TV
  cases sE q
  refine AI rfl (E4 (iuR [3,4]) (R2 (AJ (R2 TV))))
 dsimp only [Fz] at q
 refine AI ?_ TV
 cases sE q
 refine AI rfl (E4 (iuR [0,0]) (R2 (AJ (R2 TV))))
theorem H79:HI C79 79:=hI Tryz.f79 rfl fun x=>V79 x.1 x.2.1 x.2.2.1 x.2.2.2
def f80_l1 (g:Fx) (r1:Int×LI×Fx) (go:Jv→Option LI) (v29:Int) (l5:LI):Option LI:=
 bif (decide (v29<r1.2.2.2.length)) then
 E9 (0≤v29∧v29<r1.2.2.2.length)<|
 E9 (0≤v29∧v29<g.2.length)<|
 E9 (0≤(rd 0 r1.2.2.2 v29)∧(rd 0 r1.2.2.2 v29)<l5.length)<|
 go ((i64.wrap (v29+1)),(List.set l5 (Int.toNat (rd 0 r1.2.2.2 v29)) (rd 0 g.2 v29)))
 else
 some l5
def f80 (g a:Fx) (wide:Int):Option Fx:=
 Ey (f22 a.1 (0:Int)) fun q6_9=>
 Ey (f101 (a.1,a.2) wide) fun r1=>
 Ey (Fp (fun go x=>f80_l1 g r1 go x.1 x.2) Fv ((0:Int),q6_9.2.2)) fun z2=>
 some (q6_9.2.1,z2)
def C80:Con:=⟨Fx×Fx×Int,Fx,0,fun x=>[.dat T3 x.1,.dat T3 x.2.1,.dat T2 x.2.2],NX,fun x=>f80 x.1 x.2.1 x.2.2,fun y=>[.raw true [(.osl 0),(.osl 1)]],fun y=>[(0,.arr 3 T2 y.1),(1,.arr 42 T2 y.2)],2⟩
theorem V80 g a wide y (q:f80 g a wide=some y):VC Tryz.f80 C80 (g,a,wide) y:=by
 unfold f80 at q
 refine OL (OL ?_)
 obtain ⟨q6_9,h,q⟩:=bE q
 refine OL (cA H22 (a.1,(0:Int)) h rfl (R2 (K0 (OL (OL ?_)))))
 obtain ⟨r1,h,q⟩:=bE q
 refine OL (cA H101 ((a.1,a.2),wide) h rfl (R3 (K0 (OL (OL (OL ?_))))))
 obtain ⟨z2,h,q⟩:=bE q
 refine lJ h (fun x=>⟨[(3,P0 0 0),(6,P0 1 0),(7,P0 2 0),(27,O0 3),(28,.dat T2 (r1.2.2.2.length:Int)),(29,.dat T2 x.1)],[(0,.cells [(.d T1 g.1),(.d T1 g.2)]),(1,.cells [N0,N0]),(2,.cells [(.osl 4),(.osl 5)]),(3,.arr 3 T2 r1.2.2.2),(4,.arr 3 T2 q6_9.2.1),(5,.arr 42 T2 x.2)],6⟩) (fun z=>[(2,⟨[(6,P0 0 0),(7,P0 1 0)],[(0,.cells [N0,N0]),(1,.cells [(.osl 2),(.osl 3)]),(2,.arr 3 T2 q6_9.2.1),(3,.arr 42 T2 z)],4⟩)]) (E4 (iuR [1,3,6,9,4,5]) (R3 (AI (R4 TV) (R6 TV)))) (fun m=>F6 (fun v29=>fun l5 z q=>?_)) ?_
 ·have q:f80_l1 g r1 _ v29 l5=some z:=q
  unfold f80_l1 at q
  refine OL (OL (cI q (fun q=>?_) (fun q=>?_)))
  ·refine OL (OL (gI q (fun q=>?_)))
   refine EI (tU 0 9 (.alt 9 .done .done)) (EI [] (EI [] (AI rfl (gI q (fun q=>?_)))))
   refine gI q (fun q=>?_)
   refine AI TV (OL (EI ((i64.wrap (v29+1)),(List.set l5 (Int.toNat (rd 0 r1.2.2.2 v29)) (rd 0 g.2 v29))) (AI q (E4 I6 (R3 (AI (R4 TV) (R6 TV)))))))
  cases sE q
  refine E4 (iuR [2,3,5,6]) (AI rfl (AI (R2 TV) (R4 TV)))
 refine AI (OL (OL ?_)) TV
 cases sE q
 refine AI rfl (E4 (iuR [3,4]) (AI rfl (AJ (R2 TV))))
theorem H80:HI C80 80:=hI Tryz.f80 rfl fun x=>V80 x.1 x.2.1 x.2.2
def f30_j1 (n:ND):Option Bool:=
 bif (n.1==2) then
 some (n.1==2)
 else
 some (n.1==3)
def f30 (n:ND) (a b g:Fx):Option Gl:=
 Ey (f30_j1 n) fun z1=>
 bif z1 then
 Ey (f69 (g.1,g.2) a.1) fun r2=>
 some (r2.1,r2.2.1,r2.2.2)
 else
 bif (n.1==4) then
 Ey (f70 (g.1,g.2) (b.1,b.2)) fun r3=>
 Ey (f71 (r3.2.1,r3.2.2) r3.1 a.1) fun r4=>
 some (r4.1,r4.2.1,r4.2.2)
 else
 bif (n.1==5) then
 Ey (f72 (g.1,g.2) n.2.2.2.1) fun r5=>
 some (r5.1,r5.2.1,r5.2.2)
 else
 bif (n.1==6) then
 Ey (f73 (g.1,g.2) (b.1,b.2) false) fun r6=>
 some (r6.1,r6.2.1,r6.2.2)
 else
 bif (n.1==7) then
 Ey (f74 (g.1,g.2)) fun r7=>
 some (r7.1,r7.2.1,r7.2.2)
 else
 bif (n.1==8) then
 Ey (f75 (g.1,g.2) a.1 n.2.2.2.1) fun r8=>
 some ((0:Int),r8.1,r8.2)
 else
 bif (n.1==9) then
 E9 (0≤(0:Int)∧0<(g.2.length:Int))<|
 Ey (f22 a.1 (rd 0 g.2 0)) fun q17_6=>
 some (q17_6.1,q17_6.2.1,q17_6.2.2)
 else
 bif (n.1==10) then
 E9 (0≤(0:Int)∧0<(g.2.length:Int))<|
 Ey (f77 (rd 0 g.2 0)) fun q19_6=>
 Ey (f76 (q19_6.1,q19_6.2) (a.2.length:Int)) fun q19_10=>
 Ey (f22 a.1 q19_10) fun q19_11=>
 some (q19_11.1,q19_11.2.1,q19_11.2.2)
 else
 bif (n.1==11) then
 Ey (f78 n.2.2.2.1 (a.1,a.2) (g.1,g.2)) fun q19_15=>
 some (q19_15.1,q19_15.2.1,q19_15.2.2)
 else
 bif (n.1==12) then
 E9 (0≤(1:Int)∧1<(a.1.length:Int))<|
 Ey (f79 (g.1,g.2) (b.1,b.2) n.2.2.2.1 (rd 0 a.1 1)) fun q23_8=>
 some (q23_8.1,q23_8.2.1,q23_8.2.2)
 else
 bif (n.1==13) then
 Ey (f80 (g.1,g.2) (a.1,a.2) n.2.2.2.1) fun q23_12=>
 some ((0:Int),q23_12.1,q23_12.2)
 else
 bif (n.1==14) then
 Ey (f81 (g.1,g.2) a.1) fun r9=>
 some (r9.1,r9.2.1,r9.2.2)
 else
 some ((0:Int),[],[])
def C30:Con:=⟨(ND)×Fx×PTz10,Gl,0,fun x=>[.dat T0 x.1,.dat T3 x.2.1,.dat T3 x.2.2.1,.dat T3 x.2.2.2],NX,fun x=>f30 x.1 x.2.1 x.2.2.1 x.2.2.2,fun y=>[.raw true [(.osl 0),(.osl 1)],.dat T2 y.1],fun y=>[(0,.arr 3 T2 y.2.1),(1,.arr 42 T2 y.2.2)],2⟩
theorem V30 n a b g y (q:f30 n a b g=some y):VC Tryz.f30 C30 (n,a,b,g) y:=by
 unfold f30 at q
 refine OL (OL (OL ?_))
 obtain ⟨z1,hz1,q⟩:=bE q
 refine OQ ⟨[(0,⟨[(4,P0 0 0),(5,P0 1 0),(6,P0 2 0),(7,P0 3 0),(8,P0 4 0),(13,.dat T2 n.1),(14,.dat .bool z1)],[(0,.cells [(.d T2 n.1),(.d T2 n.2.1),(.d T2 n.2.2.1),(.d T2 n.2.2.2.1),(.d T1 n.2.2.2.2.1),(.d T1 n.2.2.2.2.2)]),(1,.cells [(.d T1 a.1),(.d T1 a.2)]),(2,.cells [(.d T1 b.1),(.d T1 b.2)]),(3,.cells [(.d T1 g.1),(.d T1 g.2)]),(4,.cells [N0,N0])],5⟩)],?_,?_⟩
 ·have q:=hz1
  clear hz1
  unfold f30_j1 at q
  refine OL (cI q (fun q=>?_) (fun q=>?_))
  ·cases sE q
   refine E4 I5 (R3 (AI (R5 TV) (R5 TV)))
  cases sE q
  refine E4 I5 (R3 (AI (R5 TV) (R5 TV)))
 refine AI (cI q (fun q=>?_) (fun q=>?_)) TV
 ·refine OL ?_
  obtain ⟨r2,h,q⟩:=bE q
  refine OL (cA H69 ((g.1,g.2),a.1) h rfl (R3 (K0 (OL ?_))))
  cases sE q
  refine AI rfl (E4 (iuR [6,7]) (R2 (AJ (R2 TV))))
 refine OL (cI q (fun q=>?_) (fun q=>?_))
 ·refine OL ?_
  obtain ⟨r3,h,q⟩:=bE q
  refine OL (cA H70 ((g.1,g.2),(b.1,b.2)) h rfl (R4 (K0 (OL (OL ?_)))))
  obtain ⟨r4,h,q⟩:=bE q
  refine OL (cD H71 ((r3.2.1,r3.2.2),r3.1,a.1) h rfl (R4 (AI (fun _=>rfl) (R2 (AI TV (AI TV (OL ?_)))))))
  cases sE q
  refine AI rfl (E4 (iuR [9,10]) (R2 (AJ (R2 TV))))
 refine OL (cI q (fun q=>?_) (fun q=>?_))
 ·refine OL ?_
  obtain ⟨r5,h,q⟩:=bE q
  refine OL (cA H72 ((g.1,g.2),n.2.2.2.1) h rfl (R3 (K0 (OL ?_))))
  cases sE q
  refine AI rfl (E4 (iuR [6,7]) (R2 (AJ (R2 TV))))
 refine OL (cI q (fun q=>?_) (fun q=>?_))
 ·refine OL ?_
  obtain ⟨r6,h,q⟩:=bE q
  refine OL (cA H73 ((g.1,g.2),(b.1,b.2),false) h rfl (R5 (K0 (OL ?_))))
  cases sE q
  refine AI rfl (E4 (iuR [6,7]) (R2 (AJ (R2 TV))))
 refine OL (cI q (fun q=>?_) (fun q=>?_))
 ·refine OL ?_
  obtain ⟨r7,h,q⟩:=bE q
  refine OL (cA H74 (g.1,g.2) h rfl (R2 (K0 (OL ?_))))
  cases sE q
  refine AI rfl (E4 (iuR [6,7]) (R2 (AJ (R2 TV))))
 refine OL (cI q (fun q=>?_) (fun q=>?_))
 ·refine OL ?_
  obtain ⟨r8,h,q⟩:=bE q
  refine OL (cA H75 ((g.1,g.2),a.1,n.2.2.2.1) h rfl (R4 (K0 (OL ?_))))
  cases sE q
  refine AI rfl (E4 (iuR [6,7]) (R2 (AJ (R2 TV))))
 refine OL (cI q (fun q=>?_) (fun q=>?_))
 ·refine OL (EI (tU 0 6 (.alt 6 (.take 7 (.take 8 (.alt 9 (.take 10 .done) .done))) .done)) (EI [] (EI [] (AI rfl (gI q (fun q=>?_))))))
  refine AI TV ?_
  obtain ⟨q17_6,h,q⟩:=bE q
  refine OL (cA H22 (a.1,(rd 0 g.2 0)) h rfl (R2 (K0 (AI TV (OL ?_)))))
  cases sE q
  refine AI rfl (E4 (iuR [6,7]) (R2 (AJ (R2 TV))))
 refine OL (cI q (fun q=>?_) (fun q=>?_))
 ·refine OL (EI (tU 0 6 (tU 7 3 (.alt 6 (.alt 10 (.alt 11 (.take 12 (.take 13 (.alt 14 (.take 15 .done) .done))) .done) .done) .done))) (EI [] (EI [] (AI rfl (gI q (fun q=>?_))))))
  refine AI TV ?_
  obtain ⟨q19_6,h,q⟩:=bE q
  refine OL (cA H77 (rd (0:Int) g.2 0) h rfl (AI rfl (K0 (AI TV ?_))))
  obtain ⟨q19_10,h,q⟩:=bE q
  refine OL (cA H76 ((q19_6.1,q19_6.2),(a.2.length:Int)) h rfl (R3 (K0 (AI TV ?_))))
  obtain ⟨q19_11,h,q⟩:=bE q
  refine OL (cA H22 (a.1,q19_10) h rfl (R2 (K0 (AI TV (OL ?_)))))
  cases sE q
  refine AI rfl (E4 (iuR [6,7]) (R2 (AJ (R2 TV))))
 refine OL (cI q (fun q=>?_) (fun q=>?_))
 ·refine OL ?_
  obtain ⟨q19_15,h,q⟩:=bE q
  refine OL (cA H78 (n.2.2.2.1,(a.1,a.2),(g.1,g.2)) h rfl (R5 (K0 (OL ?_))))
  cases sE q
  refine AI rfl (E4 (iuR [6,7]) (R2 (AJ (R2 TV))))
 refine OL (cI q (fun q=>?_) (fun q=>?_))
 ·refine OL (EI (tU 0 8 (.alt 8 (.take 9 (.take 10 (.alt 11 (.take 12 .done) .done))) .done)) (EI [] (EI [] (AI rfl (gI q (fun q=>?_))))))
  refine AI TV ?_
  obtain ⟨q23_8,h,q⟩:=bE q
  refine OL (cA H79 ((g.1,g.2),(b.1,b.2),n.2.2.2.1,(rd 0 a.1 1)) h rfl (R6 (K0 (AI TV (OL ?_)))))
  cases sE q
  refine AI rfl (E4 (iuR [6,7]) (R2 (AJ (R2 TV))))
 refine OL (cI q (fun q=>?_) (fun q=>?_))
 ·refine OL ?_
  obtain ⟨q23_12,h,q⟩:=bE q
  refine OL (cA H80 ((g.1,g.2),(a.1,a.2),n.2.2.2.1) h rfl (R5 (K0 (OL ?_))))
  cases sE q
  refine AI rfl (E4 (iuR [6,7]) (R2 (AJ (R2 TV))))
 refine OL (cI q (fun q=>?_) (fun q=>?_))
 ·refine OL ?_
  obtain ⟨r9,h,q⟩:=bE q
  refine OL (cA H81 ((g.1,g.2),a.1) h rfl (R3 (K0 (OL ?_))))
  cases sE q
  refine AI rfl (E4 (iuR [6,7]) (R2 (AJ (R2 TV))))
 refine OL (OL ?_)
 cases sE q
 refine AI rfl (E4 (iuR [0,0]) (R2 (AJ (R2 TV))))
theorem H30:HI C30 30:=hI Tryz.f30 rfl fun x=>V30 x.1 x.2.1 x.2.2.1 x.2.2.2
def f82_j4 (g a:Fx) (step wid:Int):Option Bool:=
 Ey (f28 (g.1,g.2)) fun r15=>
 bif (!r15) then
 some true
 else
 Ey (f28 (a.1,a.2)) fun r16=>
 bif (!r16) then
 some true
 else
 Ey (f131 step) fun r17=>
 bif (!r17) then
 some true
 else
 Ey (f132 wid) fun r18=>
 some (!r18)
def f82_j5 (g a:Fx) (step wid:Int):Option Bool:=
 bif ((g.1.length:Int) != 2) then
 some true
 else
 bif ((a.1.length:Int) != 2) then
 some true
 else
 E9 (0≤(1:Int)∧1<(a.1.length:Int))<|
 E9 (0≤(1:Int)∧1<(g.1.length:Int))<|
 Ey (f133 (rd 0 a.1 1) wid step) fun q3_17=>
 some (q3_17 != (rd 0 g.1 1))
def f82_j3 (g a:Fx) (step wid:Int):Option (Sum Unit Int):=
 Ey (f82_j4 g a step wid) fun z14=>
 bif z14 then
 some (Sum.inr (1:Int))
 else
 Ey (f82_j5 g a step wid) fun z19=>
 bif z19 then
 some (Sum.inr (4:Int))
 else
 some (Sum.inl ())
def f82_l9 (g a:Fx) (step wid v97:Int) (go:PTz2→Option PTz7) (v114 c4_0 c4_1 c4_2:Int):Option PTz7:=
 bif (decide (v114<(rd 0 g.1 1))) then
 E9 (0≤(i64.wrap ((i64.wrap ((i64.wrap (Int.tdiv v97 (i64.wrap ((rd 0 a.1 0)*wid))))*(rd 0 g.1 1)))+v114))∧(i64.wrap ((i64.wrap ((i64.wrap (Int.tdiv v97 (i64.wrap ((rd 0 a.1 0)*wid))))*(rd 0 g.1 1)))+v114))<g.2.length)<|
 E9 (0≤(i64.wrap ((i64.wrap ((i64.wrap ((Int.tmod (i64.wrap (Int.tdiv v97 wid)) (rd 0 a.1 0))*(rd 0 a.1 1)))+(i64.wrap (v114*step))))+(Int.tmod v97 wid)))∧(i64.wrap ((i64.wrap ((i64.wrap ((Int.tmod (i64.wrap (Int.tdiv v97 wid)) (rd 0 a.1 0))*(rd 0 a.1 1)))+(i64.wrap (v114*step))))+(Int.tmod v97 wid)))<a.2.length)<|
 Ey (f135 c4_0 c4_1 c4_2 (rd 0 g.2 (i64.wrap ((i64.wrap ((i64.wrap (Int.tdiv v97 (i64.wrap ((rd 0 a.1 0)*wid))))*(rd 0 g.1 1)))+v114))) (rd 0 a.2 (i64.wrap ((i64.wrap ((i64.wrap ((Int.tmod (i64.wrap (Int.tdiv v97 wid)) (rd 0 a.1 0))*(rd 0 a.1 1)))+(i64.wrap (v114*step))))+(Int.tmod v97 wid))))) fun q17_22=>
 go ((i64.wrap (v114+1)),q17_22.1,q17_22.2.1,q17_22.2.2)
 else
 some (c4_0,c4_1,c4_2)
def f82_l8 (g a:Fx) (step wid:Int) (q5_14:Gl) (go:Jv→Option LI) (v97:Int) (l5:LI):Option LI:=
 bif (decide (v97<q5_14.2.2.length)) then
 E9 ((i64.wrap ((rd 0 a.1 0)*wid))≠0)<|
 E9 (wid≠0)<|
 E9 ((rd 0 a.1 0)≠0)<|
 E9 (wid≠0)<|
 Ey (Fp (fun go x=>f82_l9 g a step wid v97 go x.1 x.2.1 x.2.2.1 x.2.2.2) Fv ((0:Int),(0:Int),(0:Int),(0:Int))) fun z23=>
 Ey (f136 z23.1 z23.2.1 z23.2.2 (32:Int)) fun q19_3=>
 E9 (0≤v97∧v97<l5.length)<|
 go ((i64.wrap (v97+1)),(List.set l5 (Int.toNat v97) q19_3.1))
 else
 some l5
def f82 (g a:Fx) (step wid:Int):Option Gl:=
 Ey (f82_j3 g a step wid) fun z10=>
 Fz z10 (fun z10a=>
 E9 (0≤(0:Int)∧0<(a.1.length:Int))<|
 E9 (0≤(1:Int)∧1<(a.1.length:Int))<|
 E9 (0≤(1:Int)∧1<(g.1.length:Int))<|
 E9 (0≤(0:Int)∧0<(g.1.length:Int))<|
 Ey (f134 ([(rd 0 g.1 0),(rd 0 a.1 0),wid])) fun q5_14=>
 bif (q5_14.1 != 0) then
 some (q5_14.1,[],[])
 else
 Ey (Fp (fun go x=>f82_l8 g a step wid q5_14 go x.1 x.2) Fv ((0:Int),q5_14.2.2)) fun z22=>
 some ((0:Int),q5_14.2.1,z22)) (fun z10b=>
 some (z10b,[],[]))
def C82:Con:=⟨Fx×Fx×Gm,Gl,0,fun x=>[.dat T3 x.1,.dat T3 x.2.1,.dat T2 x.2.2.1,.dat T2 x.2.2.2],NX,fun x=>f82 x.1 x.2.1 x.2.2.1 x.2.2.2,fun y=>[.raw true [(.osl 0),(.osl 1)],.dat T2 y.1],fun y=>[(0,.arr 3 T2 y.2.1),(1,.arr 42 T2 y.2.2)],2⟩
theorem V82 g a step wid y (q:f82 g a step wid=some y):VC Tryz.f82 C82 (g,a,step,wid) y:=by
 unfold f82 at q
 refine OL ?_
 obtain ⟨z10,hz10,q⟩:=bE q
 let e0:LE:=fun zz=>(2,.dat T2 step)::(3,.dat T2 wid)::(4,P0 0 0)::(5,P0 1 0)::(8,P0 2 0)::zz
 let h1:LH:=fun zz=>(0,.cells [(.d T1 g.1),(.d T1 g.2)])::(1,.cells [(.d T1 a.1),(.d T1 a.2)])::(2,.cells [N0,N0])::zz
 refine OQ ⟨Sum.elim (fun z10a=>[(0,⟨e0 [],h1 [],3⟩)]) (fun z10b=>[(1,⟨[(8,P0 0 0),(9,.dat T2 z10b)],[(0,.cells [N0,N0])],1⟩)]) z10,?_,?_⟩
 ·have q:=hz10
  clear hz10
  unfold f82_j3 at q
  obtain ⟨z14,hz14,q⟩:=bE q
  refine OQ ⟨[(0,⟨e0 [(21,.dat .bool z14)],h1 [],3⟩)],?_,?_⟩
  ·have q:=hz14
   clear hz14
   unfold f82_j4 at q
   obtain ⟨r15,h,q⟩:=bE q
   refine OL (cA H28 (g.1,g.2) h rfl (R2 (K0 (cN q (fun q=>?_) (fun q=>?_)))))
   ·refine gY ?_
    obtain ⟨r16,h,q⟩:=bE q
    refine OL (cA H28 (a.1,a.2) h rfl (R2 (K0 (gY (cF (cN q (fun q=>?_) (fun q=>?_)))))))
    ·refine gY ?_
     obtain ⟨r17,h,q⟩:=bE q
     refine OL (cA H131 step h rfl (AI rfl (K0 (gY (cF (cN q (fun q=>?_) (fun q=>?_)))))))
     ·refine gY ?_
      obtain ⟨r18,h,q⟩:=bE q
      refine OL (cA H132 wid h rfl (AI rfl (K0 (gY (cF ?_)))))
      cases sE q
      refine E4 I3 (R4 (AI (R3 TV) (R3 TV)))
     refine gN (gN (cT ?_))
     cases sE q
     refine E4 I3 (R4 (AI (R3 TV) (R3 TV)))
    refine gN (gN (cT (gN (gN (gN (cT ?_))))))
    cases sE q
    refine E4 I3 (R4 (AI (R3 TV) (R3 TV)))
   refine gN (gN (cT (gN (gN (gN (cT (gN (gN (gN (cT ?_))))))))))
   cases sE q
   refine E4 I3 (R4 (AI (R3 TV) (R3 TV)))
  refine AI (cI q (fun q=>?_) (fun q=>?_)) TV
  ·refine OL (OL ?_)
   cases sE q
   refine E4 (iuR [3]) (R2 (AJ (AI rfl TV)))
  obtain ⟨z19,hz19,q⟩:=bE q
  refine OQ ⟨[(0,⟨e0 [(41,.dat .bool z19)],h1 [],3⟩)],?_,?_⟩
  ·have q:=hz19
   clear hz19
   unfold f82_j5 at q
   refine EI (tU 0 17 (tU 18 4 (.alt 17 (tU 22 3 .done) .done))) (EI [] (EI [] (AI rfl (cN q (fun q=>?_) (fun q=>?_)))))
   ·refine gY (gY (gY (cF (cN q (fun q=>?_) (fun q=>?_)))))
    ·refine gY (gY (gI q (fun q=>?_)))
     refine gY (gY (gY (gY (gY (gY (gI q (fun q=>?_)))))))
     refine gY (AI TV (gY ?_))
     obtain ⟨q3_17,h,q⟩:=bE q
     refine OL (cA H133 ((rd 0 a.1 1),wid,step) h rfl (R3 (K0 (gY (cF ?_)))))
     cases sE q
     refine E4 I3 (R4 (AI (R3 TV) (R3 TV)))
    refine gN (gN (gN (gN (gN (gN (gN (gN (gN (AI TV (gN (gN (cT ?_))))))))))))
    cases sE q
    refine E4 I3 (R4 (AI (R3 TV) (R3 TV)))
   refine gN (gN (gN (cT (gN (gN (gN (gN (gN (gN (gN (gN (gN (gN (AI TV (gN (gN (cT ?_)))))))))))))))))
   cases sE q
   refine E4 I3 (R4 (AI (R3 TV) (R3 TV)))
  refine AI (cI q (fun q=>?_) (fun q=>?_)) TV
  ·refine OL (OL ?_)
   cases sE q
   refine E4 (iuR [3]) (R2 (AJ (AI rfl TV)))
  cases sE q
  refine E4 I3 (R3 (AI (R3 TV) (R3 TV)))
 rcases z10 with z10a | z10b
 ·dsimp only [Fz] at q
  refine AI (OL (EI (tU 0 15 .done) (EI [] (EI [] (AI rfl (gI q (fun q=>?_))))))) TV
  refine gI q (fun q=>?_)
  refine gI q (fun q=>?_)
  refine OL (gI q (fun q=>?_))
  refine OL ?_
  obtain ⟨q5_14,h,q⟩:=bE q
  refine OL (cD H134 [(rd 0 g.1 0),(rd 0 a.1 0),wid] h rfl (AI rfl (AI (fun _=>rfl) (R2 (AI TV (AI TV (OL (OL (OL (cI q (fun q=>?_) (fun q=>?_)))))))))))
  ·refine OL (OL ?_)
   cases sE q
   refine AI rfl (E4 (iuR [0,0]) (R2 (AJ (R2 TV))))
  refine OL (OL ?_)
  obtain ⟨z22,hz22,q⟩:=bE q
  let e2:LE:=fun zz=>e0 ((10,.dat T2 (rd 0 a.1 0))::(11,.dat T2 (rd 0 a.1 1))::(12,.dat T2 (rd 0 g.1 1))::(13,P0 3 0)::zz)
  refine lJ hz22 (fun x=>⟨e2 [(96,.dat T2 (q5_14.2.2.length:Int)),(97,.dat T2 x.1)],h1 [(3,.cells [(.osl 4),(.osl 5)]),(4,.arr 3 T2 q5_14.2.1),(5,.arr 42 T2 x.2)],6⟩) (fun z=>[(3,⟨[(8,P0 0 0),(13,P0 1 0)],[(0,.cells [N0,N0]),(1,.cells [(.osl 2),(.osl 3)]),(2,.arr 3 T2 q5_14.2.1),(3,.arr 42 T2 z)],4⟩)]) (E4 (iuR [1,2,3,7,5,6]) (R8 (AI (R4 TV) (R6 TV)))) (fun m=>F6 (fun v97=>fun l5 z q=>?_)) ?_
  ·have q:f82_l8 g a step wid q5_14 _ v97 l5=some z:=q
   unfold f82_l8 at q
   refine OL (OL (cI q (fun q=>?_) (fun q=>?_)))
   ·refine OL (OL (OL (EI (tU 0 16 .done) (EI [] (EI [] (AI rfl (gI q (fun q=>?_))))))))
    refine gI q (fun q=>?_)
    refine gI q (fun q=>?_)
    refine gI q (fun q=>?_)
    refine OL (OL (OL ?_))
    obtain ⟨z23,h,q⟩:=bE q
    refine lJ h (fun x=>⟨e2 [(15,.dat T2 v97),(16,.dat T2 (i64.wrap (Int.tdiv v97 (i64.wrap ((rd 0 a.1 0)*wid))))),(17,.dat T2 (Int.tmod (i64.wrap (Int.tdiv v97 wid)) (rd 0 a.1 0))),(18,.dat T2 (Int.tmod v97 wid)),(19,P0 4 0),(96,.dat T2 (q5_14.2.2.length:Int)),(97,.dat T2 v97),(113,.dat T2 (rd 0 g.1 1)),(114,.dat T2 x.1)],h1 [(3,.cells [(.osl 5),(.osl 6)]),(4,.cells [(.d T2 x.2.1),(.d T2 x.2.2.1),(.d T4 x.2.2.2)]),(5,.arr 3 T2 q5_14.2.1),(6,.arr 42 T2 l5)],7⟩) (fun z=>[(5,⟨e2 [(15,.dat T2 v97),(19,P0 4 0),(96,.dat T2 (q5_14.2.2.length:Int)),(97,.dat T2 v97)],h1 [(3,.cells [(.osl 5),(.osl 6)]),(4,.cells [(.d T2 z.1),(.d T2 z.2.1),(.d T4 z.2.2)]),(5,.arr 3 T2 q5_14.2.1),(6,.arr 42 T2 l5)],7⟩)]) (E4 (iuR [1,2,3,4,7,5,6]) (R14 (AI (R5 TV) (R7 TV)))) (fun m=>F6 (fun v114=>F6 (fun c4_0=>F6 (fun c4_1=>fun c4_2 z q=>?_)))) ?_
    ·have q:f82_l9 g a step wid v97 _ v114 c4_0 c4_1 c4_2=some z:=q
     unfold f82_l9 at q
     refine OL (OL (cI q (fun q=>?_) (fun q=>?_)))
     ·refine OL (OL (EI (tU 0 22 (.alt 22 .done .done)) (EI [] (EI [] (AI rfl (gI q (fun q=>?_)))))))
      refine gI q (fun q=>?_)
      refine AI TV ?_
      obtain ⟨q17_22,h,q⟩:=bE q
      refine OL (cB H135 (c4_0,c4_1,c4_2,(rd 0 g.2 (i64.wrap ((i64.wrap ((i64.wrap (Int.tdiv v97 (i64.wrap ((rd 0 a.1 0)*wid))))*(rd 0 g.1 1)))+v114))),(rd 0 a.2 (i64.wrap ((i64.wrap ((i64.wrap ((Int.tmod (i64.wrap (Int.tdiv v97 wid)) (rd 0 a.1 0))*(rd 0 a.1 1)))+(i64.wrap (v114*step))))+(Int.tmod v97 wid))))) (iuR [5]) false h rfl (R2 (AI NH (R2 (AJ (AJ (EI ((i64.wrap (v114+1)),q17_22.1,q17_22.2.1,q17_22.2.2) (AI q (E4 I7 (R14 (AI (R5 TV) (R7 TV))))))))))))
     cases sE q
     refine E4 I7 (R9 (AI (R5 TV) (R7 TV)))
    refine AI (EI (tU 0 3 (.alt 3 (.take 4 (.alt 5 .done .done)) .done)) (EI [] (EI [] (AI rfl (AI TV ?_))))) TV
    obtain ⟨q19_3,h,q⟩:=bE q
    refine OL (cB H136 (z23.1,z23.2.1,z23.2.2,(32:Int)) (iuR [5]) false h rfl (AI rfl (AI NH (R2 (AJ (AJ (gI q (fun q=>?_))))))))
    refine AI TV (OL (EI ((i64.wrap (v97+1)),(List.set l5 (Int.toNat v97) q19_3.1)) (AI q (E4 (iuR [1,2,3,4,6,7]) (R8 (AI (R4 TV) (R6 TV)))))))
   cases sE q
   refine E4 (iuR [3,4,5,6]) (AI rfl (AI (R2 TV) (R4 TV)))
  refine AI (OL (OL ?_)) TV
  cases sE q
  refine AI rfl (E4 (iuR [3,4]) (R2 (AJ (R2 TV))))
 dsimp only [Fz] at q
 refine AI ?_ TV
 cases sE q
 refine AI rfl (E4 (iuR [0,0]) (R2 (AJ (R2 TV))))
theorem H82:HI C82 82:=hI Tryz.f82 rfl fun x=>V82 x.1 x.2.1 x.2.2.1 x.2.2.2
def f31 (n:ND) (a b g:Fx):Option Gl:=
 bif (n.1==2) then
 Ey (f69 (g.1,g.2) b.1) fun q13_12=>
 some (q13_12.1,q13_12.2.1,q13_12.2.2)
 else
 bif (n.1==3) then
 Ey (f72 (g.1,g.2) (-4294967296:Int)) fun r1=>
 Ey (f71 (r1.2.1,r1.2.2) r1.1 b.1) fun r2=>
 some (r2.1,r2.2.1,r2.2.2)
 else
 bif (n.1==4) then
 Ey (f70 (g.1,g.2) (a.1,a.2)) fun r3=>
 Ey (f71 (r3.2.1,r3.2.2) r3.1 b.1) fun r4=>
 some (r4.1,r4.2.1,r4.2.2)
 else
 bif (n.1==6) then
 Ey (f73 (a.1,a.2) (g.1,g.2) true) fun r5=>
 some (r5.1,r5.2.1,r5.2.2)
 else
 bif (n.1==12) then
 E9 (0≤(2:Int)∧2<(b.1.length:Int))<|
 Ey (f82 (g.1,g.2) (a.1,a.2) n.2.2.2.1 (rd 0 b.1 2)) fun q13_8=>
 some (q13_8.1,q13_8.2.1,q13_8.2.2)
 else
 some ((0:Int),[],[])
def C31:Con:=⟨(ND)×Fx×PTz10,Gl,0,fun x=>[.dat T0 x.1,.dat T3 x.2.1,.dat T3 x.2.2.1,.dat T3 x.2.2.2],NX,fun x=>f31 x.1 x.2.1 x.2.2.1 x.2.2.2,fun y=>[.raw true [(.osl 0),(.osl 1)],.dat T2 y.1],fun y=>[(0,.arr 3 T2 y.2.1),(1,.arr 42 T2 y.2.2)],2⟩
theorem V31 n a b g y (q:f31 n a b g=some y):VC Tryz.f31 C31 (n,a,b,g) y:=by
 unfold f31 at q
 refine OL (OL (OL (OL (cI q (fun q=>?_) (fun q=>?_)))))
 ·refine OL ?_
  obtain ⟨q13_12,h,q⟩:=bE q
  refine OL (cA H69 ((g.1,g.2),b.1) h rfl (R3 (K0 (OL ?_))))
  cases sE q
  refine AI rfl (E4 (iuR [6,7]) (R2 (AJ (R2 TV))))
 refine OL (cI q (fun q=>?_) (fun q=>?_))
 ·refine OL ?_
  obtain ⟨r1,hr1,q⟩:=bE q
  have hr1:C72.F ((g.1,g.2),(-4294967296:Int))=some r1:=hr1
  refine OL (cA H72 _ hr1 rfl (R3 (K0 (OL (OL ?_)))))
  obtain ⟨r2,h,q⟩:=bE q
  refine OL (cD H71 ((r1.2.1,r1.2.2),r1.1,b.1) h rfl (R4 (AI (fun _=>rfl) (R2 (AI TV (AI TV (OL ?_)))))))
  cases sE q
  refine AI rfl (E4 (iuR [9,10]) (R2 (AJ (R2 TV))))
 refine OL (cI q (fun q=>?_) (fun q=>?_))
 ·refine OL ?_
  obtain ⟨r3,h,q⟩:=bE q
  refine OL (cA H70 ((g.1,g.2),(a.1,a.2)) h rfl (R4 (K0 (OL (OL ?_)))))
  obtain ⟨r4,h,q⟩:=bE q
  refine OL (cD H71 ((r3.2.1,r3.2.2),r3.1,b.1) h rfl (R4 (AI (fun _=>rfl) (R2 (AI TV (AI TV (OL ?_)))))))
  cases sE q
  refine AI rfl (E4 (iuR [9,10]) (R2 (AJ (R2 TV))))
 refine OL (cI q (fun q=>?_) (fun q=>?_))
 ·refine OL ?_
  obtain ⟨r5,h,q⟩:=bE q
  refine OL (cA H73 ((a.1,a.2),(g.1,g.2),true) h rfl (R5 (K0 (OL ?_))))
  cases sE q
  refine AI rfl (E4 (iuR [6,7]) (R2 (AJ (R2 TV))))
 refine OL (cI q (fun q=>?_) (fun q=>?_))
 ·refine OL (EI (tU 0 8 (.alt 8 (.take 9 (.take 10 (.alt 11 (.take 12 .done) .done))) .done)) (EI [] (EI [] (AI rfl (gI q (fun q=>?_))))))
  refine AI TV ?_
  obtain ⟨q13_8,h,q⟩:=bE q
  refine OL (cA H82 ((g.1,g.2),(a.1,a.2),n.2.2.2.1,(rd 0 b.1 2)) h rfl (R6 (K0 (AI TV (OL ?_)))))
  cases sE q
  refine AI rfl (E4 (iuR [6,7]) (R2 (AJ (R2 TV))))
 refine OL (OL ?_)
 cases sE q
 refine AI rfl (E4 (iuR [0,0]) (R2 (AJ (R2 TV))))
theorem H31:HI C31 31:=hI Tryz.f31 rfl fun x=>V31 x.1 x.2.1 x.2.2.1 x.2.2.2
def f12_j3 (g:Fx) (q12_4:PTz8):Option Bool:=
 bif (!q12_4.2.2.2.2.1) then
 some true
 else
 Ey (f28 (g.1,g.2)) fun r10=>
 bif (!r10) then
 some true
 else
 Ey (f29 g.1 q12_4.2.2.2.2.2.1) fun r11=>
 some (!r11)
def f12_j2 (g:Fx) (q12_4:PTz8):Option (Sum Unit Unit):=
 Ey (f12_j3 g q12_4) fun z9=>
 bif z9 then
 some (Sum.inr ())
 else
 some (Sum.inl ())
def f12 (t_l:NL) (n:Int) (g:Fx):Option (Int×LI×LI×LI×LI×NL):=
 Ey (f23 t_l n) fun q12_4=>
 Ey (f12_j2 g q12_4) fun z6=>
 Fz z6 (fun z6a=>
 Ey (f21 q12_4.2.2.2.2.2.2.2 q12_4.2.1) fun r12=>
 Ey (f21 r12.2.2.2 q12_4.2.2.1) fun r13=>
 Ey (f30 (q12_4.1,q12_4.2.1,q12_4.2.2.1,q12_4.2.2.2.1,q12_4.2.2.2.2.2.1,q12_4.2.2.2.2.2.2.1) (r12.2.1,r12.2.2.1) (r13.2.1,r13.2.2.1) (g.1,g.2)) fun r14=>
 bif (r14.1 != 0) then
 some (r14.1,[],[],[],[],r13.2.2.2)
 else
 Ey (f31 (q12_4.1,q12_4.2.1,q12_4.2.2.1,q12_4.2.2.2.1,q12_4.2.2.2.2.2.1,q12_4.2.2.2.2.2.2.1) (r12.2.1,r12.2.2.1) (r13.2.1,r13.2.2.1) (g.1,g.2)) fun r15=>
 bif (r15.1 != 0) then
 some (r15.1,[],[],[],[],r13.2.2.2)
 else
 some ((0:Int),r14.2.1,r14.2.2,r15.2.1,r15.2.2,r13.2.2.2)) (fun z6b=>
 some ((1:Int),[],[],[],[],q12_4.2.2.2.2.2.2.2))
def C12:Con:=⟨NL×Gl,Int×LI×LI×LI×LI×NL,2,fun x=>[P0 0 0,.dat T2 x.2.1,.dat T3 x.2.2],fun x=>[(0,.cells [(.osl 1)]),(1,.arr 65 T0 x.1)],fun x=>f12 x.1 x.2.1 x.2.2,fun y=>[.raw true [(.osl 2),(.osl 3)],.raw true [(.osl 4),(.osl 5)],.dat T2 y.1],fun y=>[(0,.cells [(.osl 1)]),(1,.arr 65 T0 y.2.2.2.2.2),(2,.arr 3 T2 y.2.1),(3,.arr 42 T2 y.2.2.1),(4,.arr 3 T2 y.2.2.2.1),(5,.arr 42 T2 y.2.2.2.2.1)],6⟩
theorem V12 t_l n g y (q:f12 t_l n g=some y):VE Tryz.f12 2 C12 (t_l,n,g) y:=by
 unfold f12 at q
 refine OL (OL ?_)
 obtain ⟨q12_4,h,q⟩:=bE q
 refine OL (cB H23 (t_l,n) I2 false h rfl (AI rfl (AI NH (R2 (AJ (AI (R2 TV) (OL ?_)))))))
 obtain ⟨z6,hz6,q⟩:=bE q
 let h0:LH:=fun zz=>(0,.cells [(.osl 1)])::(1,.arr 65 T0 q12_4.2.2.2.2.2.2.2)::zz
 let h1:LH:=fun zz=>h0 ((2,.cells [(.d T1 g.1),(.d T1 g.2)])::(3,.cells [N0,N0])::(4,.cells [N0,N0])::(5,.cells [(.d T2 q12_4.1),(.d T2 q12_4.2.1),(.d T2 q12_4.2.2.1),(.d T2 q12_4.2.2.2.1),(.osl 6),(.osl 7)])::(6,.arr 3 T2 q12_4.2.2.2.2.2.1)::(7,.arr 42 T2 q12_4.2.2.2.2.2.2.1)::zz)
 refine OQ ⟨Sum.elim (fun z6a=>[(0,⟨[(0,P0 0 0),(5,P0 2 0),(6,P0 3 0),(7,P0 4 0),(9,P0 5 0)],h1 [],8⟩)]) (fun z6b=>[(1,⟨[(6,P0 2 0),(7,P0 3 0),(8,D0 1)],h0 [(2,.cells [N0,N0]),(3,.cells [N0,N0])],4⟩)]) z6,?_,?_⟩
 ·have q:=hz6
  clear hz6
  unfold f12_j2 at q
  obtain ⟨z9,hz9,q⟩:=bE q
  refine OQ ⟨[(0,⟨[(0,P0 0 0),(5,P0 2 0),(6,P0 3 0),(7,P0 4 0),(9,P0 5 0),(39,.dat .bool z9)],h1 [],8⟩)],?_,?_⟩
  ·have q:=hz9
   clear hz9
   unfold f12_j3 at q
   refine cN q (fun q=>?_) (fun q=>?_)
   ·refine gY ?_
    obtain ⟨r10,h,q⟩:=bE q
    refine OL (cA H28 (g.1,g.2) h rfl (R2 (K0 (gY (cF (cN q (fun q=>?_) (fun q=>?_)))))))
    ·refine gY (gY (gY (gY (gY ?_))))
     obtain ⟨r11,h,q⟩:=bE q
     refine OL (cD H29 (g.1,q12_4.2.2.2.2.2.1) h rfl (R2 (AI (fun _=>rfl) (R2 (AI TV (AI TV (gY (cF ?_))))))))
     cases sE q
     refine E4 (iuR [1,2,3,4,5,10,8,9]) (R2 (AI (R5 TV) (R8 TV)))
    refine gN (gN (gN (gN (gN (gN (cT ?_))))))
    cases sE q
    refine E4 (iuR [1,2,3,4,5,10,8,9]) (R2 (AI (R5 TV) (R8 TV)))
   refine gN (gN (cT (gN (gN (gN (gN (gN (gN (gN (cT ?_))))))))))
   cases sE q
   refine E4 (iuR [1,2,3,4,5,10,8,9]) (R2 (AI (R5 TV) (R8 TV)))
  refine AI (cI q (fun q=>?_) (fun q=>?_)) TV
  ·refine OL (OL (OL ?_))
   cases sE q
   refine E4 (iuR [1,2,4,5]) (R2 (AI (R2 TV) (R4 TV)))
  cases sE q
  refine E4 I8 (AI rfl (AI (R5 TV) (R8 TV)))
 rcases z6 with z6a | z6b
 ·dsimp only [Fz] at q
  refine AI (OL ?_) TV
  obtain ⟨r12,h,q⟩:=bE q
  refine OL (cB H21 (q12_4.2.2.2.2.2.2.2,q12_4.2.1) I2 false h rfl (AI rfl (AI NH (R2 (AJ (AI (R2 TV) (OL (OL ?_))))))))
  obtain ⟨r13,h,q⟩:=bE q
  refine OL (cB H21 (r12.2.2.2,q12_4.2.2.1) I2 false h rfl (AI rfl (AI NH (R2 (AJ (AI (R2 TV) (OL (OL ?_))))))))
  obtain ⟨r14,h,q⟩:=bE q
  refine OL (cD H30 ((q12_4.1,q12_4.2.1,q12_4.2.2.1,q12_4.2.2.2.1,q12_4.2.2.2.2.2.1,q12_4.2.2.2.2.2.2.1),(r12.2.1,r12.2.2.1),(r13.2.1,r13.2.2.1),(g.1,g.2)) h rfl (R8 (AI (fun _=>rfl) (R2 (AI TV (AI TV (OL (OL (OL (cI q (fun q=>?_) (fun q=>?_)))))))))))
  ·refine OL (OL (OL ?_))
   cases sE q
   refine AI rfl (E4 (iuR [1,2,0,0,0,0]) (R2 (AI (R2 TV) (R6 TV))))
  refine OL ?_
  obtain ⟨r15,h,q⟩:=bE q
  refine OL (cD H31 ((q12_4.1,q12_4.2.1,q12_4.2.2.1,q12_4.2.2.2.1,q12_4.2.2.2.2.2.1,q12_4.2.2.2.2.2.2.1),(r12.2.1,r12.2.2.1),(r13.2.1,r13.2.2.1),(g.1,g.2)) h rfl (R8 (AI (fun _=>rfl) (R2 (AI TV (AI TV (OL (OL (OL (cI q (fun q=>?_) (fun q=>?_)))))))))))
  ·refine OL (OL (OL ?_))
   cases sE q
   refine AI rfl (E4 (iuR [1,2,0,0,0,0]) (R2 (AI (R2 TV) (R6 TV))))
  refine OL (EI (.take 0 (.take 1 (.alt 2 (.alt 3 (.take 4 .done) .done) .done))) (EI [] (EI [] (AI rfl (AI TV (OL (AI TV (OL ?_))))))))
  cases sE q
  refine AI rfl (E4 (iuR [1,2,19,20,22,23]) (R2 (AI (R2 TV) (R6 TV))))
 dsimp only [Fz] at q
 refine AI ?_ TV
 cases sE q
 refine AI rfl (E4 (iuR [1,2,0,0,0,0]) (R2 (AI (R2 TV) (R6 TV))))
theorem H12:HI C12 12:=hI Tryz.f12 rfl fun x=>V12 x.1 x.2.1 x.2.2
def f24 (s_l:LTz0) (s_given:List Bool) (n:Int) (g:Fx):Option (Int×LTz0×(List Bool)):=
 bif (decide (n<0)) then
 some ((0:Int),s_l,s_given)
 else
 E9 (0≤n∧n<s_l.length)<|
 Ey (f61 ((rd (Ty.z T3) s_l n).1,(rd (Ty.z T3) s_l n).2) (g.1,g.2)) fun q4_13=>
 E9 (0≤n∧n<s_l.length)<|
 E9 (0≤n∧n<s_given.length)<|
 some (q4_13.1,(List.set s_l (Int.toNat n) (q4_13.2.1,q4_13.2.2)),(List.set s_given (Int.toNat n) true))
def C24:Con:=⟨LTz0×(List Bool)×Gl,Int×LTz0×(List Bool),3,fun x=>[P0 0 0,.dat T2 x.2.2.1,.dat T3 x.2.2.2],fun x=>[(0,.cells [(.osl 1),(.osl 2)]),(1,.arr 38 T3 x.1),(2,.arr 4 .bool x.2.1)],fun x=>f24 x.1 x.2.1 x.2.2.1 x.2.2.2,fun y=>[.dat T2 y.1],fun y=>[(0,.cells [(.osl 1),(.osl 2)]),(1,.arr 38 T3 y.2.1),(2,.arr 4 .bool y.2.2)],3⟩
theorem V24 s_l s_given n g y (q:f24 s_l s_given n g=some y):VE Tryz.f24 3 C24 (s_l,s_given,n,g) y:=by
 unfold f24 at q
 refine OL (OL (OL (cI q (fun q=>?_) (fun q=>?_))))
 ·cases sE q
  refine OL (AI rfl (E4 I3 (R2 (AI TV (R3 TV)))))
 refine OL (OL (EI (tU 0 13 (.alt 13 (tU 14 4 (.alt 18 (.take 19 .done) .done)) .done)) (EI [(18,[1])] (EI [] (AI rfl (gI q (fun q=>?_)))))))
 refine AI TV ?_
 obtain ⟨q4_13,h,q⟩:=bE q
 refine OL (cA H61 (((rd (Ty.z T3) s_l n).1,(rd (Ty.z T3) s_l n).2),(g.1,g.2)) h rfl (R4 (K0 (gI q (fun q=>?_)))))
 refine AI TV (OL (OL (gI q (fun q=>?_))))
 refine OL (OL ?_)
 cases sE q
 refine AI rfl (E4 I3 (R2 (AI TV (R3 TV))))
theorem H24:HI C24 24:=hI Tryz.f24 rfl fun x=>V24 x.1 x.2.1 x.2.2.1 x.2.2.2
def f8_l1 (root:Int) (go:(Int×NL×LTz0×Gl)→Option (NL×LTz0×Gl)) (v43:Int) (l1:NL) (l3:LTz0) (i3:Int) (l5 l6:LI):Option (NL×LTz0×Gl):=
 bif (decide (v43<(i64.wrap (root+1)))) then
 Ey (f21 l1 v43) fun q12_10=>
 Ey (f22 q12_10.2.1 (0:Int)) fun r6=>
 E9 ((List.length (List.set l3 (Int.toNat i3) (l5,l6))+1)*48≤140737488355328)<|
 go ((i64.wrap (v43+1)),q12_10.2.2.2,((List.set l3 (Int.toNat i3) (l5,l6))++[(Ty.z T3)]),(List.length (List.set l3 (Int.toNat i3) (l5,l6)):Int),r6.2.1,r6.2.2)
 else
 some (l1,l3,i3,l5,l6)
def f8_l2 (go:(Int×NL×LTz0×(List Bool))→Option (Sum (Int×NL) (LTz0×(List Bool)×NL))) (n:Int) (l1:NL) (l3:LTz0) (l4:List Bool):Option (Sum (Int×NL) (LTz0×(List Bool)×NL)):=
 bif (decide (n≥0)) then
 E9 (0≤n∧n<l4.length)<|
 bif (!(rd false l4 n)) then
 go ((i64.wrap (n-1)),l1,l3,l4)
 else
 Ey (f23 l1 n) fun r15=>
 E9 (0≤n∧n<l3.length)<|
 Ey (f12 r15.2.2.2.2.2.2.2 n ((rd (Ty.z T3) l3 n).1,(rd (Ty.z T3) l3 n).2)) fun r16=>
 bif (r16.1 != 0) then
 some (Sum.inl (r16.1,r16.2.2.2.2.2))
 else
 Ey (f24 l3 l4 r15.2.1 (r16.2.1,r16.2.2.1)) fun r17=>
 bif (r17.1 != 0) then
 some (Sum.inl (r17.1,r16.2.2.2.2.2))
 else
 Ey (f24 r17.2.1 r17.2.2 r15.2.2.1 (r16.2.2.2.1,r16.2.2.2.2.1)) fun r18=>
 bif (r18.1 != 0) then
 some (Sum.inl (r18.1,r16.2.2.2.2.2))
 else
 go ((i64.wrap (n-1)),r16.2.2.2.2.2,r18.2.1,r18.2.2)
 else
 some (Sum.inr (l3,l4,l1))
def f8 (t_l:NL) (root:Int):Option (Int×LTz0×NL):=
 Ey (f21 t_l root) fun r1=>
 bif (!r1.1) then
 some ((1:Int),[],r1.2.2.2)
 else
 bif (decide ((r1.2.2.1.length:Int)>1)) then
 some ((4:Int),[],r1.2.2.2)
 else
 E9 (0≤(i64.wrap (root+1))∧(i64.wrap (root+1))≤(i64.wrap (root+1))∧Int.toNat (i64.wrap (root+1))*1≤140737488355328)<|
 Ey (Fp (fun go x=>f8_l1 root go x.1 x.2.1 x.2.2.1 x.2.2.2.1 x.2.2.2.2.1 x.2.2.2.2.2) Fv ((0:Int),r1.2.2.2,[],(0:Int),[],[])) fun z5=>
 E9 (0≤root∧root<z5.2.1.length)<|
 E9 (root=z5.2.2.1)<|
 E9 (0≤(0:Int)∧0<(z5.2.2.2.2.length:Int))<|
 E9 (0≤root∧root<(List.length (List.replicate (Int.toNat (i64.wrap (root+1))) false):Int))<|
 Ey (Fp (fun go x=>f8_l2 go x.1 x.2.1 x.2.2.1 x.2.2.2) Fv (root,z5.1,(List.set z5.2.1 (Int.toNat z5.2.2.1) (z5.2.2.2.1,(List.set z5.2.2.2.2 (Int.toNat (0:Int)) (4294967296:Int)))),(List.set (List.replicate (Int.toNat (i64.wrap (root+1))) false) (Int.toNat root) true))) fun z14=>
 Fz z14 (fun z14a=>
 some (z14a.1,[],z14a.2)) (fun z14b=>
 some ((0:Int),z14b.1,z14b.2.2))
def C8:Con:=⟨NL×Int,Int×LTz0×NL,2,fun x=>[P0 0 0,.dat T2 x.2],fun x=>[(0,.cells [(.osl 1)]),(1,.arr 65 T0 x.1)],fun x=>f8 x.1 x.2,fun y=>[O0 2,.dat T2 y.1],fun y=>[(0,.cells [(.osl 1)]),(1,.arr 65 T0 y.2.2),(2,.arr 38 T3 y.2.1)],3⟩
theorem V8 t_l root y (q:f8 t_l root=some y):VE Tryz.f8 2 C8 (t_l,root) y:=by
 unfold f8 at q
 refine OL (OL ?_)
 obtain ⟨r1,h,q⟩:=bE q
 refine OL (cB H21 (t_l,root) I2 false h rfl (AI rfl (AI NH (R2 (AJ (AI (R2 TV) (OL (OL (OL (cI q (fun q=>?_) (fun q=>?_)))))))))))
 ·cases sE q
  refine OL (AI rfl (E4 (iuR [1,2,0]) (R2 (AJ (R3 TV)))))
 refine OL (cI q (fun q=>?_) (fun q=>?_))
 ·cases sE q
  refine OL (AI rfl (E4 (iuR [1,2,0]) (R2 (AJ (R3 TV)))))
 refine OL (gI q (fun q=>?_))
 refine OL (OL ?_)
 obtain ⟨z5,hz5,q⟩:=bE q
 let h0:LH:=fun zz=>(0,.cells [(.osl 1)])::zz
 refine lJ hz5 (fun x=>⟨[(0,P0 0 0),(1,.dat T2 root),(8,P0 2 0),(42,.dat T2 (i64.wrap (root+1))),(43,.dat T2 x.1)],h0 [(1,.arr 65 T0 x.2.1),(2,.cells [(.osl 3),(.osl 4)]),(3,.hol 38 T3 x.2.2.1 x.2.2.2.1 [(.osl 5),(.osl 6)]),(4,.arr 4 .bool (List.replicate (Int.toNat (i64.wrap (root+1))) false)),(5,.arr 3 T2 x.2.2.2.2.1),(6,.arr 42 T2 x.2.2.2.2.2)],7⟩) (fun z=>[(3,⟨[(0,P0 0 0),(1,.dat T2 root),(8,P0 2 0)],h0 [(1,.arr 65 T0 z.1),(2,.cells [(.osl 3),(.osl 4)]),(3,.hol 38 T3 z.2.1 z.2.2.1 [(.osl 5),(.osl 6)]),(4,.arr 4 .bool (List.replicate (Int.toNat (i64.wrap (root+1))) false)),(5,.arr 3 T2 z.2.2.2.1),(6,.arr 42 T2 z.2.2.2.2)],7⟩)]) (E4 (iuR [1,2,9,0,8,0,0]) (R4 (AI (R2 TV) (R7 TV)))) (fun m=>F6 (fun v43=>F6 (fun l1=>F6 (fun l3=>F6 (fun i3=>F6 (fun l5=>fun l6 z q=>?_)))))) ?_
 ·have q:f8_l1 root _ v43 l1 l3 i3 l5 l6=some z:=q
  unfold f8_l1 at q
  refine OL (OL (cI q (fun q=>?_) (fun q=>?_)))
  ·refine OL (OL (OL ?_))
   obtain ⟨q12_10,h,q⟩:=bE q
   refine OL (cB H21 (l1,v43) I2 false h rfl (AI rfl (AI NH (R2 (AJ (AI (R2 TV) (OL (OL ?_))))))))
   obtain ⟨r6,h,q⟩:=bE q
   refine OL (cD H22 (q12_10.2.1,(0:Int)) h rfl (R2 (AI (fun _=>rfl) (R2 (AI TV (AI TV (OL (EI (tU 0 6 (.alt 6 (.alt 7 (.take 8 (.take 9 (.alt 10 .done .done))) .done) .done)) (EI [(10,[2])] (EI [] (AI rfl (AI TV (OQ (AI TV (OQ (AI rfl (AI (AI rfl rfl) (gI q (fun q=>?_)))))))))))))))))))
   refine AI TV (OL (EI ((i64.wrap (v43+1)),q12_10.2.2.2,((List.set l3 (Int.toNat i3) (l5,l6))++[(Ty.z T3)]),(List.length (List.set l3 (Int.toNat i3) (l5,l6)):Int),r6.2.1,r6.2.2) (AI q (E4 (iuR [1,2,3,17,5,13,14]) (R4 (AI (R2 TV) (R7 TV)))))))
  cases sE q
  refine E4 I7 (R2 (AI (R2 TV) (R7 TV)))
 refine AI (OL (EI (tU 0 14 (.alt 14 (.take 15 (.alt 16 .done .done)) .done)) (EI [] (EI [] (AI rfl (gI q (fun q=>?_))))))) TV
 refine gI q (fun q=>?_)
 refine gI q (fun q=>?_)
 refine AI TV (OL (gI q (fun q=>?_)))
 refine AI TV (OL (OL (OL ?_)))
 obtain ⟨z14,h,q⟩:=bE q
 refine lJ h (fun x=>⟨[(0,P0 0 0),(8,P0 2 0),(14,.dat T2 x.1)],h0 [(1,.arr 65 T0 x.2.1),(2,.cells [(.osl 3),(.osl 4)]),(3,.arr 38 T3 x.2.2.1),(4,.arr 4 .bool x.2.2.2)],5⟩) (fun z=>Sum.elim (fun za=>[(1,⟨[(4,.raw false [N0]),(5,.dat T2 za.1)],h0 [(1,.arr 65 T0 za.2)],2⟩)]) (fun zb=>[(5,⟨[(8,P0 2 0)],h0 [(1,.arr 65 T0 zb.2.2),(2,.cells [(.osl 3),(.osl 4)]),(3,.arr 38 T3 zb.1),(4,.arr 4 .bool zb.2.1)],5⟩)]) z) (EI [3] (AI rfl (EI [] (EI [] (EI [] (EI I5 (R2 (AI (R2 TV) (R5 TV))))))))) (fun m=>F6 (fun n=>F6 (fun l1=>F6 (fun l3=>fun l4 z q=>?_)))) ?_
 ·have q:f8_l2 _ n l1 l3 l4=some z:=q
  unfold f8_l2 at q
  refine OL (OL (cI q (fun q=>?_) (fun q=>?_)))
  ·refine OL (OL (OL (gI q (fun q=>?_))))
   refine cI q (fun q=>?_) (fun q=>?_)
   ·refine EI ((i64.wrap (n-1)),l1,l3,l4) (AI q (E4 I5 (R2 (AI (R2 TV) (R5 TV)))))
   refine OL ?_
   obtain ⟨r15,h,q⟩:=bE q
   refine OL (cB H23 (l1,n) I2 false h rfl (AI rfl (AI NH (R2 (AJ (AI (R2 TV) (OL (OL (gI q (fun q=>?_))))))))))
   obtain ⟨r16,h,q⟩:=bE q
   refine OL (cB H12 (r15.2.2.2.2.2.2.2,n,((rd (Ty.z T3) l3 n).1,(rd (Ty.z T3) l3 n).2)) I2 false h rfl (R3 (AI NH (R2 (AJ (AI (R2 TV) (OL (OL (OL (OL (cI q (fun q=>?_) (fun q=>?_))))))))))))
   ·cases sE q
    refine OL (E4 I2 (R2 (AJ (R2 TV))))
   refine OL (OL ?_)
   obtain ⟨r17,h,q⟩:=bE q
   refine OL (cB H24 (l3,l4,r15.2.1,(r16.2.1,r16.2.2.1)) (iuR [3,4,5]) false h rfl (R3 (AI NH (R2 (AJ (AI (R3 TV) (OL (cI q (fun q=>?_) (fun q=>?_)))))))))
   ·cases sE q
    refine OL (E4 I2 (R2 (AJ (R2 TV))))
   refine OL ?_
   obtain ⟨r18,h,q⟩:=bE q
   refine OL (cB H24 (r17.2.1,r17.2.2,r15.2.2.1,(r16.2.2.2.1,r16.2.2.2.2.1)) (iuR [3,4,5]) false h rfl (R3 (AI NH (R2 (AJ (AI (R3 TV) (OL (cI q (fun q=>?_) (fun q=>?_)))))))))
   ·cases sE q
    refine OL (E4 I2 (R2 (AJ (R2 TV))))
   refine EI ((i64.wrap (n-1)),r16.2.2.2.2.2,r18.2.1,r18.2.2) (AI q (E4 I5 (R2 (AI (R2 TV) (R5 TV)))))
  cases sE q
  refine E4 I5 (AI rfl (AJ (R5 TV)))
 rcases z14 with z14a | z14b
 ·dsimp only [Fz] at q
  refine AI ?_ TV
  cases sE q
  refine AI rfl (E4 (iuR [1,2,0]) (R2 (AJ (R3 TV))))
 dsimp only [Fz] at q
 refine AI (OL ?_) TV
 cases sE q
 refine AI rfl (E4 (iuR [1,2,4]) (R2 (AJ (R3 TV))))
theorem H8:HI C8 8:=hI Tryz.f8 rfl fun x=>V8 x.1 x.2
def f26_l1 (a b:LI) (go:Int→Option (Sum Unit Unit)) (i:Int):Option (Sum Unit Unit):=
 bif (decide (i<a.length)) then
 E9 (0≤i∧i<a.length)<|
 E9 (0≤i∧i<b.length)<|
 bif ((rd 0 a i) != (rd 0 b i)) then
 some (Sum.inl ())
 else
 go (i64.wrap (i+1))
 else
 some (Sum.inr ())
def f26 (a b:LI):Option Bool:=
 bif ((a.length:Int) != b.length) then
 some false
 else
 Ey (Fp (fun go x=>f26_l1 a b go x) Fv (0:Int)) fun z1=>
 Fz z1 (fun z1a=>
 some false) (fun z1b=>
 some true)
def C26:Con:=⟨Fx,Bool,0,fun x=>[.dat T1 x.1,.dat T1 x.2],NX,fun x=>f26 x.1 x.2,fun y=>[.dat .bool y],NX,0⟩
theorem V26 a b y (q:f26 a b=some y):VC Tryz.f26 C26 (a,b) y:=by
 unfold f26 at q
 refine OL (OL (OL (cI q (fun q=>?_) (fun q=>?_))))
 ·cases sE q
  refine OL (AI rfl (E4 [] (R2 (AI TV TV))))
 refine OL (OL ?_)
 obtain ⟨z1,h,q⟩:=bE q
 refine lJ h (fun x=>⟨[(0,.dat T1 a),(1,.dat T1 b),(5,.dat T2 x)],[],0⟩) (fun z=>Sum.elim (fun za=>[(1,⟨[(4,.dat .bool false)],[],0⟩)]) (fun zb=>[(2,⟨[],[],0⟩)]) z) (E4 [] (R4 (AI TV TV))) (fun m=>fun i z q=>?_) ?_
 ·have q:f26_l1 a b _ i=some z:=q
  unfold f26_l1 at q
  refine OL (OL (cI q (fun q=>?_) (fun q=>?_)))
  ·refine OL (OL (EI (tU 0 9 .done) (EI [] (EI [] (AI rfl (gI q (fun q=>?_)))))))
   refine gI q (fun q=>?_)
   refine cI q (fun q=>?_) (fun q=>?_)
   ·cases sE q
    refine OL (E4 [] (R2 (AI TV TV)))
   refine EI (i64.wrap (i+1)) (AI q (E4 [] (R4 (AI TV TV))))
  cases sE q
  refine E4 [] (AI rfl (AI TV TV))
 rcases z1 with z1a | z1b
 ·dsimp only [Fz] at q
  refine AI ?_ TV
  cases sE q
  refine AI rfl (E4 [] (R2 (AI TV TV)))
 dsimp only [Fz] at q
 refine AI (OL ?_) TV
 cases sE q
 refine AI rfl (E4 [] (R2 (AI TV TV)))
theorem H26:HI C26 26:=hI Tryz.f26 rfl fun x=>V26 x.1 x.2
def f10_j1 (a b:Fx):Option (Sum Unit Unit):=
 Ey (f26 a.1 b.1) fun r2=>
 bif (!r2) then
 some (Sum.inr ())
 else
 bif ((a.2.length:Int) != b.2.length) then
 some (Sum.inr ())
 else
 some (Sum.inl ())
def f10_l2 (a b:Fx) (go:Int→Option (Sum Unit Unit)) (i:Int):Option (Sum Unit Unit):=
 bif (decide (i<a.2.length)) then
 E9 (0≤i∧i<a.2.length)<|
 E9 (0≤i∧i<b.2.length)<|
 bif ((rd 0 a.2 i) != (rd 0 b.2 i)) then
 some (Sum.inl ())
 else
 go (i64.wrap (i+1))
 else
 some (Sum.inr ())
def f10 (a b:Fx):Option Bool:=
 Ey (f10_j1 a b) fun z1=>
 Fz z1 (fun z1a=>
 Ey (Fp (fun go x=>f10_l2 a b go x) Fv (0:Int)) fun z3=>
 Fz z3 (fun z3a=>
 some false) (fun z3b=>
 some true)) (fun z1b=>
 some false)
def C10:Con:=⟨PTz10,Bool,0,fun x=>[.dat T3 x.1,.dat T3 x.2],NX,fun x=>f10 x.1 x.2,fun y=>[.dat .bool y],NX,0⟩
theorem V10 a b y (q:f10 a b=some y):VC Tryz.f10 C10 (a,b) y:=by
 unfold f10 at q
 refine OL ?_
 obtain ⟨z1,hz1,q⟩:=bE q
 let h0:LH:=fun zz=>(0,.cells [(.d T1 a.1),(.d T1 a.2)])::(1,.cells [(.d T1 b.1),(.d T1 b.2)])::zz
 refine OQ ⟨Sum.elim (fun z1a=>[(0,⟨[(2,P0 0 0),(3,P0 1 0)],h0 [],2⟩)]) (fun z1b=>[(1,⟨[(4,.dat .bool false)],[],0⟩)]) z1,?_,?_⟩
 ·have q:=hz1
  clear hz1
  unfold f10_j1 at q
  refine OL ?_
  obtain ⟨r2,h,q⟩:=bE q
  refine OL (cA H26 (a.1,b.1) h rfl (R2 (K0 (cN q (fun q=>?_) (fun q=>?_)))))
  ·refine gY (gY (gY (gY (gY (gY (cF (cI q (fun q=>?_) (fun q=>?_))))))))
   ·cases sE q
    refine OL (E4 [] (R2 (AI TV TV)))
   cases sE q
   refine E4 I2 (AI rfl (AI (R2 TV) (R2 TV)))
  refine gN (gN (gN (gN (gN (gN (cT (cT (OL ?_))))))))
  cases sE q
  refine E4 [] (R2 (AI TV TV))
 rcases z1 with z1a | z1b
 ·dsimp only [Fz] at q
  refine AI (OL (OL ?_)) TV
  obtain ⟨z3,h,q⟩:=bE q
  refine lJ h (fun x=>⟨[(2,P0 0 0),(3,P0 1 0),(5,.dat T2 x)],h0 [],2⟩) (fun z=>Sum.elim (fun za=>[(1,⟨[(4,.dat .bool false)],[],0⟩)]) (fun zb=>[(2,⟨[],[],0⟩)]) z) (E4 I2 (R2 (AI (R2 TV) (R2 TV)))) (fun m=>fun i z q=>?_) ?_
  ·have q:f10_l2 a b _ i=some z:=q
   unfold f10_l2 at q
   refine OL (OL (cI q (fun q=>?_) (fun q=>?_)))
   ·refine OL (OL (EI (tU 0 11 .done) (EI [] (EI [] (AI rfl (gI q (fun q=>?_)))))))
    refine gI q (fun q=>?_)
    refine cI q (fun q=>?_) (fun q=>?_)
    ·cases sE q
     refine OL (E4 [] (R2 (AI TV TV)))
    refine EI (i64.wrap (i+1)) (AI q (E4 I2 (R2 (AI (R2 TV) (R2 TV)))))
   cases sE q
   refine E4 [] (AI rfl (AI TV TV))
  rcases z3 with z3a | z3b
  ·dsimp only [Fz] at q
   refine AI ?_ TV
   cases sE q
   refine AI rfl (E4 [] (R2 (AI TV TV)))
  dsimp only [Fz] at q
  refine AI (OL ?_) TV
  cases sE q
  refine AI rfl (E4 [] (R2 (AI TV TV)))
 dsimp only [Fz] at q
 refine AI ?_ TV
 cases sE q
 refine AI rfl (E4 [] (R2 (AI TV TV)))
theorem H10:HI C10 10:=hI Tryz.f10 rfl fun x=>V10 x.1 x.2
def f5:Option Bool:=
 Ey (f14) fun q7_23=>
 Ey (f16 ([(12884901888:Int)])) fun r1=>
 Ey (f15 ([]) (r1.2,r1.1)) fun r2=>
 Ey (f17 r2.2.2 (4:Int) r2.1 r2.1 (0:Int)) fun r3=>
 Ey (f8 r3.2.2 r3.1) fun r4=>
 bif (r4.1==0) then
 bif ((r4.2.1.length:Int)==2) then
 E9 (0≤(0:Int)∧0<(r4.2.1.length:Int))<|
 Ey (f16 ([(25769803776:Int)])) fun q7_12=>
 Ey (f10 ((rd (Ty.z T3) r4.2.1 0).1,(rd (Ty.z T3) r4.2.1 0).2) (q7_12.2,q7_12.1)) fun q7_13=>
 bif q7_13 then
 E9 (0≤(1:Int)∧1<(r4.2.1.length:Int))<|
 Ey (f16 ([(4294967296:Int)])) fun q7_20=>
 Ey (f10 ((rd (Ty.z T3) r4.2.1 1).1,(rd (Ty.z T3) r4.2.1 1).2) (q7_20.2,q7_20.1)) fun q7_21=>
 some q7_21
 else
 some false
 else
 some false
 else
 some false
def C5:Con:=⟨Unit,Bool,0,fun x=>[],NX,fun x=>f5,fun y=>[.dat .bool y],NX,0⟩
theorem V5 y (q:f5=some y):VC Tryz.f5 C5 () y:=by
 unfold f5 at q
 refine OL (OL ?_)
 obtain ⟨q7_23,h,q⟩:=bE q
 refine OL (cA H14 () h rfl (K0 (OL (OL (cF (OL (OL ?_)))))))
 obtain ⟨r1,h,q⟩:=bE q
 refine OL (cA H16 [(12884901888:Int)] h rfl (AI rfl (K0 ?_)))
 obtain ⟨r2,h,q⟩:=bE q
 refine OL (cB H15 ([],(r1.2,r1.1)) I2 false h rfl (R2 (AI NH (R2 (AJ (AI (R2 TV) (OL ?_)))))))
 obtain ⟨r3,h,q⟩:=bE q
 refine OL (cB H17 (r2.2.2,(4:Int),r2.1,r2.1,(0:Int)) (iuR [1,7]) false h rfl (R4 (AI NH (R2 (AJ (AI (R2 TV) (OL ?_)))))))
 obtain ⟨r4,h,q⟩:=bE q
 refine OL (cB H8 (r3.2.2,r3.1) (iuR [1,10]) false h rfl (AI rfl (AI NH (R2 (AJ (AI (R2 TV) (OL (EI (tU 0 11 (.alt 11 (.alt 12 (.alt 13 (tU 14 5 (.alt 19 (.alt 20 (.alt 21 (.take 22 (.take 23 .done)) .done) .done) .done)) .done) .done) .done)) (EI [] (EI [] (AI rfl (cI q (fun q=>?_) (fun q=>?_)))))))))))))
 ·refine gX (gX (cT (cI q (fun q=>?_) (fun q=>?_))))
  ·refine gX (gI q (fun q=>?_))
   refine gX (AI TV (gX (OL (AI TV (gX ?_)))))
   obtain ⟨q7_12,h,q⟩:=bE q
   refine OL (cA H16 [(25769803776:Int)] h rfl (AI rfl (K0 (AI TV (gX ?_)))))
   obtain ⟨q7_13,h,q⟩:=bE q
   refine OL (cD H10 (((rd (Ty.z T3) r4.2.1 0).1,(rd (Ty.z T3) r4.2.1 0).2),(q7_12.2,q7_12.1)) h rfl (R4 (AI (fun _=>rfl) (R2 (AI TV (AI TV (cT (cI q (fun q=>?_) (fun q=>?_)))))))))
   ·refine gX (gI q (fun q=>?_))
    refine gX (AI TV (gX (OL (AI TV (gX ?_)))))
    obtain ⟨q7_20,h,q⟩:=bE q
    refine OL (cA H16 [(4294967296:Int)] h rfl (AI rfl (K0 (AI TV (gX ?_)))))
    obtain ⟨q7_21,h,q⟩:=bE q
    refine OL (cD H10 (((rd (Ty.z T3) r4.2.1 1).1,(rd (Ty.z T3) r4.2.1 1).2),(q7_20.2,q7_20.1)) h rfl (R4 (AI (fun _=>rfl) (R2 (AI TV (AI TV (cT ?_)))))))
    cases sE q
    refine AI rfl (E4 [] (R2 (AI TV TV)))
   refine gM (gM (AI TV (gM (AI TV (gM (AI TV (gM (cF ?_))))))))
   cases sE q
   refine AI rfl (E4 [] (R2 (AI TV TV)))
  refine gM (gM (AI TV (gM (AI TV (gM (AI TV (gM (cF (gM (gM (gM (AI TV (gM (AI TV (gM (AI TV (gM (cF ?_))))))))))))))))))
  cases sE q
  refine AI rfl (E4 [] (R2 (AI TV TV)))
 refine gM (gM (cF (gM (gM (gM (AI TV (gM (AI TV (gM (AI TV (gM (cF (gM (gM (gM (AI TV (gM (AI TV (gM (AI TV (gM (cF ?_))))))))))))))))))))))
 cases sE q
 refine AI rfl (E4 [] (R2 (AI TV TV)))
theorem H5:HI C5 5:=hI Tryz.f5 rfl fun x=>V5
end Go.Proofs
