import Derived.Test.YtnedcilckcemaaaGreatBackOnesS7
set_option linter.unusedVariables false
set_option maxRecDepth 100000
set_option maxHeartbeats 8000000
namespace Go.Proofs
open Go.AM
open IntKind (i64 u64 i32 u32 i16 u16 i8 u8)
def f13_j3 (t_L:NL) (n:Int) (g:Fx):Option Bool:=
 bif (decide (n<0)) then
 some true
 else
 bif (decide (n≥t_L.length)) then
 some true
 else
 Ey (f32 (g.1,g.2)) fun q2_13=>
 bif (!q2_13) then
 some true
 else
 E9 (0≤n∧n<t_L.length)<|
 Ey (f26 g.1 ((((((rd (Ty.z T0) t_L n).2).2).2).2).1)) fun q2_28=>
 some (!q2_28)
def f13_j2 (t_L:NL) (n:Int) (g:Fx):Option (Sum Unit Unit):=
 Ey (f13_j3 t_L n g) fun z3=>
 bif z3 then
 some (Sum.inr ())
 else
 some (Sum.inl ())
def f13_j4 (t_L:NL) (n:Int):Option Fx:=
 bif (decide (((((rd (Ty.z T0) t_L n).2).2).1)≥0)) then
 E9 (0≤(((rd (Ty.z T0) t_L n).2).2).1∧(((rd (Ty.z T0) t_L n).2).2).1<t_L.length)<|
 some ((((((rd (Ty.z T0) t_L ((((rd (Ty.z T0) t_L n).2).2).1)).2).2).2).2).1,(((((rd (Ty.z T0) t_L ((((rd (Ty.z T0) t_L n).2).2).1)).2).2).2).2).2)
 else
 some ([],[])
def f13_l5 (t_L:NL) (n:Int) (g:Fx) (go:Jv→Option LI) (i:Int) (l9:LI):Option LI:=
 bif (decide (i<l9.length)) then
 Ey (f37 ((((((rd (Ty.z T0) t_L (((rd (Ty.z T0) t_L n).2).1)).2).2).2).2).1) i) fun r12=>
 E9 (0≤((((rd (Ty.z T0) t_L n).2).2).2).1∧((((rd (Ty.z T0) t_L n).2).2).2).1≤r12.2.length)<|
 E9 (0≤(i64.wrap ((((((rd (Ty.z T0) t_L n).2).2).2).1)+1))∧(i64.wrap ((((((rd (Ty.z T0) t_L n).2).2).2).1)+1))≤r12.2.length)<|
 E9 ((List.length ([]:LI)+List.length (List.take (Int.toNat (((((rd (Ty.z T0) t_L n).2).2).2).1)) r12.2))*8≤140737488355328)<|
 E9 ((List.length (([]:LI)++(List.take (Int.toNat (((((rd (Ty.z T0) t_L n).2).2).2).1)) r12.2))+List.length (List.drop (Int.toNat (i64.wrap ((((((rd (Ty.z T0) t_L n).2).2).2).1)+1))) r12.2))*8≤140737488355328)<|
 Ey (f38 g.1 ((([]:LI)++(List.take (Int.toNat (((((rd (Ty.z T0) t_L n).2).2).2).1)) r12.2))++(List.drop (Int.toNat (i64.wrap ((((((rd (Ty.z T0) t_L n).2).2).2).1)+1))) r12.2))) fun q40_10=>
 E9 (0≤q40_10.1∧q40_10.1<g.2.length)<|
 E9 (0≤i∧i<l9.length)<|
 go ((i64.wrap (i+1)),(List.set l9 (Int.toNat i) (rd 0 g.2 q40_10.1)))
 else
 some l9
def f13_j6 (t_L:NL) (n:Int) (g z4:Fx):Option Fx:=
 E9 (0≤(1:Int)∧(1:Int)<(List.length ((((((rd (Ty.z T0) t_L (((rd (Ty.z T0) t_L n).2).1)).2).2).2).2).1):Int))<|
 Ey (f43 (g.1,g.2) (z4.1,z4.2) (((((rd (Ty.z T0) t_L n).2).2).2).1) (rd 0 ((((((rd (Ty.z T0) t_L (((rd (Ty.z T0) t_L n).2).1)).2).2).2).2).1) (1:Int))) fun q53_8=>
 some (q53_8.2.1,q53_8.2.2)
def f13_j7 (t_L:NL) (n:Int) (g z4:Fx):Option Fx:=
 E9 (0≤(2:Int)∧2<(z4.1.length:Int))<|
 Ey (f44 (g.1,g.2) ((((((rd (Ty.z T0) t_L (((rd (Ty.z T0) t_L n).2).1)).2).2).2).2).1,(((((rd (Ty.z T0) t_L (((rd (Ty.z T0) t_L n).2).1)).2).2).2).2).2) (((((rd (Ty.z T0) t_L n).2).2).2).1) (rd 0 z4.1 2)) fun q54_8=>
 some (q54_8.2.1,q54_8.2.2)
def f13_l8 (g:Fx) (r15:Int×LI×Fx) (go:Jv→Option LI) (i:Int) (l9:LI):Option LI:=
 bif (decide (i<r15.2.2.2.length)) then
 E9 (0≤i∧i<r15.2.2.2.length)<|
 E9 (0≤i∧i<g.2.length)<|
 E9 (0≤(rd 0 r15.2.2.2 i)∧(rd 0 r15.2.2.2 i)<l9.length)<|
 go ((i64.wrap (i+1)),(List.set l9 (Int.toNat (rd 0 r15.2.2.2 i)) (rd 0 g.2 i)))
 else
 some l9
def f13 (t_L:NL) (n:Int) (g:Fx):Option (Int×LI×LI×LI×LI×NL):=
 Ey (f13_j2 t_L n g) fun z2=>
 Fz z2 (fun z2a=>
 E9 (0≤n∧n<t_L.length)<|
 bif (((rd (Ty.z T0) t_L n).1)==1) then
 some ((0:Int),[],[],[],[],t_L)
 else
 E9 (0≤((rd (Ty.z T0) t_L n).2).1∧((rd (Ty.z T0) t_L n).2).1<t_L.length)<|
 Ey (f13_j4 t_L n) fun z4=>
 bif (((rd (Ty.z T0) t_L n).1)==2) then
 Ey (f33 (g.1,g.2) ((((((rd (Ty.z T0) t_L (((rd (Ty.z T0) t_L n).2).1)).2).2).2).2).1)) fun q13_3=>
 Ey (f33 (g.1,g.2) z4.1) fun q13_7=>
 some ((0:Int),q13_3.1,q13_3.2,q13_7.1,q13_7.2,t_L)
 else
 bif (((rd (Ty.z T0) t_L n).1)==3) then
 Ey (f34 (g.1,g.2) (-4294967296:Int)) fun q13_10=>
 Ey (f33 (g.1,g.2) ((((((rd (Ty.z T0) t_L (((rd (Ty.z T0) t_L n).2).1)).2).2).2).2).1)) fun q16_3=>
 Ey (f33 (q13_10.2.1,q13_10.2.2) z4.1) fun q16_7=>
 some ((0:Int),q16_3.1,q16_3.2,q16_7.1,q16_7.2,t_L)
 else
 bif (((rd (Ty.z T0) t_L n).1)==4) then
 Ey (f25 (2:Int) (g.1,g.2) (z4.1,z4.2)) fun q16_10=>
 Ey (f25 (2:Int) (g.1,g.2) ((((((rd (Ty.z T0) t_L (((rd (Ty.z T0) t_L n).2).1)).2).2).2).2).1,(((((rd (Ty.z T0) t_L (((rd (Ty.z T0) t_L n).2).1)).2).2).2).2).2)) fun r5=>
 Ey (f33 (q16_10.2.1,q16_10.2.2) ((((((rd (Ty.z T0) t_L (((rd (Ty.z T0) t_L n).2).1)).2).2).2).2).1)) fun q20_3=>
 Ey (f33 (r5.2.1,r5.2.2) z4.1) fun q20_7=>
 some ((0:Int),q20_3.1,q20_3.2,q20_7.1,q20_7.2,t_L)
 else
 bif (((rd (Ty.z T0) t_L n).1)==5) then
 Ey (f34 (g.1,g.2) (((((rd (Ty.z T0) t_L n).2).2).2).1)) fun q20_10=>
 some ((0:Int),q20_10.2.1,q20_10.2.2,[],[],t_L)
 else
 bif (((rd (Ty.z T0) t_L n).1)==6) then
 Ey (f35 (z4.1,z4.2)) fun q23_4=>
 Ey (f35 ((((((rd (Ty.z T0) t_L (((rd (Ty.z T0) t_L n).2).1)).2).2).2).2).1,(((((rd (Ty.z T0) t_L (((rd (Ty.z T0) t_L n).2).1)).2).2).2).2).2)) fun r6=>
 Ey (f36 (g.1,g.2) (q23_4.2.1,q23_4.2.2)) fun r7=>
 Ey (f36 (r6.2.1,r6.2.2) (g.1,g.2)) fun r8=>
 some ((0:Int),r7.2.1,r7.2.2,r8.2.1,r8.2.2,t_L)
 else
 bif (((rd (Ty.z T0) t_L n).1)==7) then
 Ey (f35 (g.1,g.2)) fun q29_4=>
 some ((0:Int),q29_4.2.1,q29_4.2.2,[],[],t_L)
 else
 bif (((rd (Ty.z T0) t_L n).1)==8) then
 Ey (f11 ((((((rd (Ty.z T0) t_L (((rd (Ty.z T0) t_L n).2).1)).2).2).2).2).1) (0:Int)) fun q32_4=>
 Ey (Fp (fun go x=>f13_l5 t_L n g go x.1 x.2) Fv ((0:Int),q32_4.2)) fun z11=>
 some ((0:Int),q32_4.1,z11,[],[],t_L)
 else
 bif (((rd (Ty.z T0) t_L n).1)==9) then
 E9 (0≤(0:Int)∧0<(g.2.length:Int))<|
 Ey (f11 ((((((rd (Ty.z T0) t_L (((rd (Ty.z T0) t_L n).2).1)).2).2).2).2).1) (rd 0 g.2 0)) fun q45_6=>
 some ((0:Int),q45_6.1,q45_6.2,[],[],t_L)
 else
 bif (((rd (Ty.z T0) t_L n).1)==10) then
 E9 (0≤(0:Int)∧0<(g.2.length:Int))<|
 Ey (f41 (rd 0 g.2 0)) fun q47_4=>
 Ey (f40 q47_4.1 q47_4.2 (0:Int) (0:Int) (0:Int) (List.length ((((((rd (Ty.z T0) t_L (((rd (Ty.z T0) t_L n).2).1)).2).2).2).2).2):Int)) fun q47_8=>
 Ey (f39 q47_8.1 q47_8.2.1 q47_8.2.2.1 q47_8.2.2.2.1 q47_8.2.2.2.2) fun q47_9=>
 Ey (f11 ((((((rd (Ty.z T0) t_L (((rd (Ty.z T0) t_L n).2).1)).2).2).2).2).1) q47_9) fun q48_3=>
 some ((0:Int),q48_3.1,q48_3.2,[],[],t_L)
 else
 bif (((rd (Ty.z T0) t_L n).1)==11) then
 Ey (f42 (((((rd (Ty.z T0) t_L n).2).2).2).1) ((((((rd (Ty.z T0) t_L (((rd (Ty.z T0) t_L n).2).1)).2).2).2).2).1,(((((rd (Ty.z T0) t_L (((rd (Ty.z T0) t_L n).2).1)).2).2).2).2).2) (g.1,g.2)) fun q48_7=>
 some ((0:Int),q48_7.2.1,q48_7.2.2,[],[],t_L)
 else
 bif (((rd (Ty.z T0) t_L n).1)==12) then
 Ey (f13_j6 t_L n g z4) fun z13=>
 Ey (f13_j7 t_L n g z4) fun z14=>
 some ((0:Int),z13.1,z13.2,z14.1,z14.2,t_L)
 else
 bif (((rd (Ty.z T0) t_L n).1)==13) then
 Ey (f11 ((((((rd (Ty.z T0) t_L (((rd (Ty.z T0) t_L n).2).1)).2).2).2).2).1) (0:Int)) fun q55_4=>
 Ey (f45 ((((((rd (Ty.z T0) t_L (((rd (Ty.z T0) t_L n).2).1)).2).2).2).2).1,(((((rd (Ty.z T0) t_L (((rd (Ty.z T0) t_L n).2).1)).2).2).2).2).2) (((((rd (Ty.z T0) t_L n).2).2).2).1)) fun r15=>
 Ey (Fp (fun go x=>f13_l8 g r15 go x.1 x.2) Fv ((0:Int),q55_4.2)) fun z16=>
 some ((0:Int),q55_4.1,z16,[],[],t_L)
 else
 Ey (f46 (g.1,g.2) ((((((rd (Ty.z T0) t_L (((rd (Ty.z T0) t_L n).2).1)).2).2).2).2).1)) fun q63_4=>
 some ((0:Int),q63_4.2.1,q63_4.2.2,[],[],t_L)) (fun z2b=>
 some ((1:Int),[],[],[],[],t_L))
def C13:Con:=⟨NL×Gl,Int×LI×LI×LI×LI×NL,2,fun x=>[P0 0 0,.dat T2 x.2.1,.dat T3 x.2.2],fun x=>[(0,.cells [(.osl 1)]),(1,.arr 44 T0 x.1)],fun x=>f13 x.1 x.2.1 x.2.2,fun y=>[.raw true [(.osl 2),(.osl 3)],.raw true [(.osl 4),(.osl 5)],.dat T2 y.1],fun y=>[(0,.cells [(.osl 1)]),(1,.arr 44 T0 y.2.2.2.2.2),(2,.arr 3 T2 y.2.1),(3,.arr 42 T2 y.2.2.1),(4,.arr 3 T2 y.2.2.2.1),(5,.arr 42 T2 y.2.2.2.2.1)],6⟩
theorem V13 t_L n g y (q:f13 t_L n g=some y):VE Tryz.f13 2 C13 (t_L,n,g) y:=by
 unfold f13 at q
 refine OL (OL (OL ?_))
 obtain ⟨z2,hz2,q⟩:=bE q
 let e0:LE:=fun zz=>(0,P0 0 0)::(1,.dat T2 n)::(5,P0 2 0)::(6,P0 3 0)::(7,P0 4 0)::(9,P0 5 0)::zz
 let h1:LH:=fun zz=>(0,.cells [(.osl 1)])::(1,.arr 44 T0 t_L)::zz
 let h2:LH:=fun zz=>h1 ((2,.cells [(.d T1 g.1),(.d T1 g.2)])::(3,.cells [N0,N0])::(4,.cells [N0,N0])::zz)
 let h3:LH:=fun zz=>h2 ((5,.cells [N0,N0])::zz)
 let h4:LH:=fun zz=>h1 ((2,.cells [N0,N0])::(3,.cells [N0,N0])::zz)
 refine OQ ⟨Sum.elim (fun z2a=>[(0,⟨e0 [],h3 [],6⟩)]) (fun z2b=>[(1,⟨[(6,P0 2 0),(7,P0 3 0),(8,D0 1)],h4 [],4⟩)]) z2,?_,?_⟩
 ·have q:=hz2
  clear hz2
  unfold f13_j2 at q
  obtain ⟨z3,hz3,q⟩:=bE q
  refine OQ ⟨[(0,⟨e0 [(84,.dat .bool z3)],h3 [],6⟩)],?_,?_⟩
  ·have q:=hz3
   clear hz3
   unfold f13_j3 at q
   refine EI (tU 0 13 (.alt 13 (tU 14 14 (.alt 28 (.take 29 (.take 30 .done)) .done)) .done)) (EI [] (EI [] (AI rfl (cN q (fun q=>?_) (fun q=>?_)))))
   ·refine gY (gY (gY (gY (gY (gY (cF (cN q (fun q=>?_) (fun q=>?_))))))))
    ·refine AI TV (gY ?_)
     obtain ⟨q2_13,h,q⟩:=bE q
     refine OL (cA H32 (g.1,g.2) h rfl (R2 (K0 (gY (cF (cN q (fun q=>?_) (fun q=>?_)))))))
     ·refine gY (gY (gY (gY (gY (gY (gY (gI q (fun q=>?_))))))))
      refine gY (gY (gY (AI TV (gY ?_))))
      obtain ⟨q2_28,h,q⟩:=bE q
      refine OL (cA H26 (g.1,(((((rd (Ty.z T0) t_L n).2).2).2).2).1) h rfl (R2 (K0 (gY (cF ?_)))))
      cases sE q
      refine E4 I6 (R3 (AI (R5 TV) (R6 TV)))
     refine gN (gN (gN (gN (gN (gN (gN (gN (gN (gN (AI TV (gN (gN (cT ?_)))))))))))))
     cases sE q
     refine E4 I6 (R3 (AI (R5 TV) (R6 TV)))
    refine AI TV (gN (gN (cT (gN (gN (gN (gN (gN (gN (gN (gN (gN (gN (gN (AI TV (gN (gN (cT ?_))))))))))))))))))
    cases sE q
    refine E4 I6 (R3 (AI (R5 TV) (R6 TV)))
   refine gN (gN (gN (gN (gN (gN (cT (gN (AI TV (gN (gN (cT (gN (gN (gN (gN (gN (gN (gN (gN (gN (gN (gN (AI TV (gN (gN (cT ?_))))))))))))))))))))))))))
   cases sE q
   refine E4 I6 (R3 (AI (R5 TV) (R6 TV)))
  refine AI (cI q (fun q=>?_) (fun q=>?_)) TV
  ·refine OL (EI (.take 0 (.take 1 (.alt 2 (.alt 3 (.take 4 .done) .done) .done))) (EI [] (EI [] (AI rfl (AI TV (OL (AI TV (OL ?_))))))))
   cases sE q
   refine E4 (iuR [1,2,4,5]) (R2 (AI (R2 TV) (R4 TV)))
  cases sE q
  refine E4 I6 (R2 (AI (R5 TV) (R6 TV)))
 rcases z2 with z2a | z2b
 ·dsimp only [Fz] at q
  refine AI (OL (gI q (fun q=>?_))) TV
  refine OL (OL (OL (cI q (fun q=>?_) (fun q=>?_))))
  ·refine OL (EI (.take 0 (.take 1 (.alt 2 (.alt 3 (.take 4 .done) .done) .done))) (EI [] (EI [] (AI rfl (AI TV (OL (AI TV (OL ?_))))))))
   cases sE q
   refine AI rfl (E4 (iuR [1,2,0,0,0,0]) (R2 (AI (R2 TV) (R6 TV))))
  refine OL (EI (tU 0 9 (.alt 9 (.alt 10 .done .done) .done)) (EI [] (EI [] (AI rfl (gI q (fun q=>?_))))))
  refine AI TV (AI TV (OL (OL (OL ?_))))
  obtain ⟨z4,hz4,q⟩:=bE q
  let e5:LE:=fun zz=>(5,P0 2 0)::(6,P0 3 0)::(7,P0 4 0)::zz
  refine OQ ⟨[(0,⟨e5 [(9,P0 5 0),(10,P0 6 0),(11,P0 7 0),(12,P0 8 0)],h3 [(6,.cells [(.d T2 ((rd (Ty.z T0) t_L n).1)),(.d T2 (((rd (Ty.z T0) t_L n).2).1)),(.d T2 ((((rd (Ty.z T0) t_L n).2).2).1)),(.d T2 (((((rd (Ty.z T0) t_L n).2).2).2).1)),(.d T1 ((((((rd (Ty.z T0) t_L n).2).2).2).2).1)),(.d T1 ((((((rd (Ty.z T0) t_L n).2).2).2).2).2))]),(7,.cells [(.d T1 ((((((rd (Ty.z T0) t_L (((rd (Ty.z T0) t_L n).2).1)).2).2).2).2).1)),(.d T1 ((((((rd (Ty.z T0) t_L (((rd (Ty.z T0) t_L n).2).1)).2).2).2).2).2))]),(8,.cells [(.d T1 z4.1),(.d T1 z4.2)])],9⟩)],?_,?_⟩
  ·have q:=hz4
   clear hz4
   unfold f13_j4 at q
   refine OL (cI q (fun q=>?_) (fun q=>?_))
   ·refine EI (tU 0 9 (.alt 9 .done .done)) (EI [] (EI [] (AI rfl (gI q (fun q=>?_)))))
    refine AI TV (OL ?_)
    cases sE q
    refine E4 I9 (AI rfl (AI (R7 TV) (R9 TV)))
   cases sE q
   refine EI [] (EI [] (EI [(8,0,T2),(8,1,T2)] (EI [] (EI I9 (AI rfl (AI (R7 TV) (R9 TV)))))))
  refine AI (OL (OL (OL (cI q (fun q=>?_) (fun q=>?_))))) TV
  ·refine OL (EI (tU 0 3 (tU 4 3 (.alt 3 (.alt 7 (.alt 8 (.alt 9 (.take 10 .done) .done) .done) .done) .done))) (EI [] (EI [] (AI rfl (AI TV ?_)))))
   obtain ⟨q13_3,h,q⟩:=bE q
   refine OL (cA H33 ((g.1,g.2),(((((rd (Ty.z T0) t_L (((rd (Ty.z T0) t_L n).2).1)).2).2).2).2).1) h rfl (R3 (K0 (AI TV ?_))))
   obtain ⟨q13_7,h,q⟩:=bE q
   refine OL (cA H33 ((g.1,g.2),z4.1) h rfl (R3 (K0 (AI TV (OL (AI TV (OL ?_)))))))
   cases sE q
   refine AI rfl (E4 (iuR [1,2,10,11,12,13]) (R2 (AI (R2 TV) (R6 TV))))
  refine OL (cI q (fun q=>?_) (fun q=>?_))
  ·refine OL ?_
   obtain ⟨q13_10,hq13_10,q⟩:=bE q
   have hq13_10:C34.F ((g.1,g.2),(-4294967296:Int))=some q13_10:=hq13_10
   refine OL (cA H34 _ hq13_10 rfl (R3 (K0 (OL (OL (EI (tU 0 3 (tU 4 3 (.alt 3 (.alt 7 (.alt 8 (.alt 9 (.take 10 .done) .done) .done) .done) .done))) (EI [] (EI [] (AI rfl (AI TV ?_))))))))))
   obtain ⟨q16_3,h,q⟩:=bE q
   refine OL (cA H33 ((g.1,g.2),(((((rd (Ty.z T0) t_L (((rd (Ty.z T0) t_L n).2).1)).2).2).2).2).1) h rfl (R3 (K0 (AI TV ?_))))
   obtain ⟨q16_7,h,q⟩:=bE q
   refine OL (cD H33 ((q13_10.2.1,q13_10.2.2),z4.1) h rfl (R3 (AI (fun _=>rfl) (R2 (AI TV (AI TV (AI TV (OL (AI TV (OL ?_))))))))))
   cases sE q
   refine AI rfl (E4 (iuR [1,2,13,14,15,16]) (R2 (AI (R2 TV) (R6 TV))))
  refine OL (cI q (fun q=>?_) (fun q=>?_))
  ·refine OL ?_
   obtain ⟨q16_10,h,q⟩:=bE q
   refine OL (cA H25 ((2:Int),(g.1,g.2),(z4.1,z4.2)) h rfl (R5 (K0 (OL (OL ?_)))))
   obtain ⟨r5,h,q⟩:=bE q
   refine OL (cA H25 ((2:Int),(g.1,g.2),((((((rd (Ty.z T0) t_L (((rd (Ty.z T0) t_L n).2).1)).2).2).2).2).1,(((((rd (Ty.z T0) t_L (((rd (Ty.z T0) t_L n).2).1)).2).2).2).2).2)) h rfl (R5 (K0 (OL (OL (EI (tU 0 3 (tU 4 3 (.alt 3 (.alt 7 (.alt 8 (.alt 9 (.take 10 .done) .done) .done) .done) .done))) (EI [] (EI [] (AI rfl (AI TV ?_))))))))))
   obtain ⟨q20_3,h,q⟩:=bE q
   refine OL (cD H33 ((q16_10.2.1,q16_10.2.2),(((((rd (Ty.z T0) t_L (((rd (Ty.z T0) t_L n).2).1)).2).2).2).2).1) h rfl (R3 (AI (fun _=>rfl) (R2 (AI TV (AI TV (AI TV ?_)))))))
   obtain ⟨q20_7,h,q⟩:=bE q
   refine OL (cD H33 ((r5.2.1,r5.2.2),z4.1) h rfl (R3 (AI (fun _=>rfl) (R2 (AI TV (AI TV (AI TV (OL (AI TV (OL ?_))))))))))
   cases sE q
   refine AI rfl (E4 (iuR [1,2,16,17,18,19]) (R2 (AI (R2 TV) (R6 TV))))
  refine OL (cI q (fun q=>?_) (fun q=>?_))
  ·refine OL ?_
   obtain ⟨q20_10,h,q⟩:=bE q
   refine OL (cA H34 ((g.1,g.2),((((rd (Ty.z T0) t_L n).2).2).2).1) h rfl (R3 (K0 (OL (OL (EI (.take 0 (.take 1 (.alt 2 (.alt 3 (.take 4 .done) .done) .done))) (EI [] (EI [] (AI rfl (AI TV (OL (AI TV (OL ?_)))))))))))))
   cases sE q
   refine AI rfl (E4 (iuR [1,2,10,11,0,0]) (R2 (AI (R2 TV) (R6 TV))))
  refine OL (cI q (fun q=>?_) (fun q=>?_))
  ·refine OL ?_
   obtain ⟨q23_4,h,q⟩:=bE q
   refine OL (cA H35 (z4.1,z4.2) h rfl (R2 (K0 (OL (OL ?_)))))
   obtain ⟨r6,h,q⟩:=bE q
   refine OL (cA H35 ((((((rd (Ty.z T0) t_L (((rd (Ty.z T0) t_L n).2).1)).2).2).2).2).1,(((((rd (Ty.z T0) t_L (((rd (Ty.z T0) t_L n).2).1)).2).2).2).2).2) h rfl (R2 (K0 (OL (OL ?_)))))
   obtain ⟨r7,h,q⟩:=bE q
   refine OL (cD H36 ((g.1,g.2),(q23_4.2.1,q23_4.2.2)) h rfl (R4 (AI (fun _=>rfl) (R2 (AI TV (AI TV (OL (OL ?_))))))))
   obtain ⟨r8,h,q⟩:=bE q
   refine OL (cD H36 ((r6.2.1,r6.2.2),(g.1,g.2)) h rfl (R4 (AI (fun _=>rfl) (R2 (AI TV (AI TV (OL (OL (EI (.take 0 (.take 1 (.alt 2 (.alt 3 (.take 4 .done) .done) .done))) (EI [] (EI [] (AI rfl (AI TV (OL (AI TV (OL ?_))))))))))))))))
   cases sE q
   refine AI rfl (E4 (iuR [1,2,16,17,19,20]) (R2 (AI (R2 TV) (R6 TV))))
  refine OL (cI q (fun q=>?_) (fun q=>?_))
  ·refine OL ?_
   obtain ⟨q29_4,h,q⟩:=bE q
   refine OL (cA H35 (g.1,g.2) h rfl (R2 (K0 (OL (OL (EI (.take 0 (.take 1 (.alt 2 (.alt 3 (.take 4 .done) .done) .done))) (EI [] (EI [] (AI rfl (AI TV (OL (AI TV (OL ?_)))))))))))))
   cases sE q
   refine AI rfl (E4 (iuR [1,2,10,11,0,0]) (R2 (AI (R2 TV) (R6 TV))))
  refine OL (cI q (fun q=>?_) (fun q=>?_))
  ·refine OL ?_
   obtain ⟨q32_4,h,q⟩:=bE q
   refine OL (cA H11 ((((((rd (Ty.z T0) t_L (((rd (Ty.z T0) t_L n).2).1)).2).2).2).2).1,(0:Int)) h rfl (R2 (K0 (OL (OL (OL (OL ?_)))))))
   obtain ⟨z11,h,q⟩:=bE q
   refine lJ h (fun x=>⟨e5 [(9,P0 5 0),(11,P0 6 0),(31,P0 7 0),(32,.dat T2 (((((rd (Ty.z T0) t_L n).2).2).2).1)),(33,.dat T2 x.1)],h3 [(6,.cells [(.d T1 ((((((rd (Ty.z T0) t_L (((rd (Ty.z T0) t_L n).2).1)).2).2).2).2).1)),(.d T1 ((((((rd (Ty.z T0) t_L (((rd (Ty.z T0) t_L n).2).1)).2).2).2).2).2))]),(7,.cells [(.osl 8),(.osl 9)]),(8,.arr 3 T2 q32_4.1),(9,.arr 42 T2 x.2)],10⟩) (fun z=>[(3,⟨[(6,P0 2 0),(7,P0 3 0),(9,P0 4 0),(31,P0 5 0)],h4 [(4,.cells [N0,N0]),(5,.cells [(.osl 6),(.osl 7)]),(6,.arr 3 T2 q32_4.1),(7,.arr 42 T2 z)],8⟩)]) (E4 (iuR [1,2,3,4,5,6,8,12,10,11]) (R3 (AI (R6 TV) (R10 TV)))) (fun m=>F6 (fun i=>fun l9 z q=>?_)) ?_
   ·have q:f13_l5 t_L n g _ i l9=some z:=q
    unfold f13_l5 at q
    refine OL (OL (cI q (fun q=>?_) (fun q=>?_)))
    ·refine OL (OL ?_)
     obtain ⟨r12,h,q⟩:=bE q
     refine OL (cA H37 ((((((rd (Ty.z T0) t_L (((rd (Ty.z T0) t_L n).2).1)).2).2).2).2).1,i) h rfl (R2 (K0 (OL (EI (tU 1 3 (tU 5 4 (.alt 0 (.alt 4 (.alt 9 (.take 10 .done) .done) .done) .done))) (EI [] (EI [10] (AI rfl (gI q (fun q=>?_))))))))))
     refine gI q (fun q=>?_)
     refine AI TV (OL (AI TV (OL (gI q (fun q=>?_)))))
     refine AI TV (OL (gI q (fun q=>?_)))
     refine OL ?_
     obtain ⟨q40_10,h,q⟩:=bE q
     refine OL (cD H38 (g.1,((([]:LI)++(List.take (Int.toNat (((((rd (Ty.z T0) t_L n).2).2).2).1)) r12.2))++(List.drop (Int.toNat (i64.wrap ((((((rd (Ty.z T0) t_L n).2).2).2).1)+1))) r12.2))) h rfl (R2 (AI (fun _=>rfl) (R2 (AI TV (AI TV (EI (tU 0 9 (.alt 9 .done .done)) (EI [] (EI [] (AI rfl (gI q (fun q=>?_))))))))))))
     refine gI q (fun q=>?_)
     refine AI TV (OL (EI ((i64.wrap (i+1)),(List.set l9 (Int.toNat i) (rd 0 g.2 q40_10.1))) (AI q (E4 I10 (R3 (AI (R6 TV) (R10 TV)))))))
    cases sE q
    refine E4 (iuR [1,2,4,5,6,8,9,10]) (AI rfl (AI (R4 TV) (R8 TV)))
   refine AI (OL (EI (.take 0 (.take 1 (.alt 2 (.alt 3 (.take 4 .done) .done) .done))) (EI [] (EI [] (AI rfl (AI TV (OL (AI TV (OL ?_))))))))) TV
   cases sE q
   refine AI rfl (E4 (iuR [1,2,7,8,0,0]) (R2 (AI (R2 TV) (R6 TV))))
  refine OL (cI q (fun q=>?_) (fun q=>?_))
  ·refine OL (EI (tU 0 6 (.take 7 (.alt 6 (.alt 8 (.alt 9 (.take 10 .done) .done) .done) .done))) (EI [] (EI [] (AI rfl (gI q (fun q=>?_))))))
   refine AI TV ?_
   obtain ⟨q45_6,h,q⟩:=bE q
   refine OL (cA H11 ((((((rd (Ty.z T0) t_L (((rd (Ty.z T0) t_L n).2).1)).2).2).2).2).1,(rd 0 g.2 0)) h rfl (R2 (K0 (AI TV (OL (AI TV (OL ?_)))))))
   cases sE q
   refine AI rfl (E4 (iuR [1,2,10,11,0,0]) (R2 (AI (R2 TV) (R6 TV))))
  refine OL (cI q (fun q=>?_) (fun q=>?_))
  ·refine OL (EI (tU 0 4 (tU 5 3 (.alt 4 (.alt 8 (.alt 9 (.take 10 .done) .done) .done) .done))) (EI [] (EI [] (AI rfl (gI q (fun q=>?_))))))
   refine AI TV ?_
   obtain ⟨q47_4,h,q⟩:=bE q
   refine OL (cA H41 (rd (0:Int) g.2 0) h rfl (AI rfl (K0 (AI TV ?_))))
   obtain ⟨q47_8,h,q⟩:=bE q
   refine OL (cA H40 (q47_4.1,q47_4.2,(0:Int),(0:Int),(0:Int),(List.length ((((((rd (Ty.z T0) t_L (((rd (Ty.z T0) t_L n).2).1)).2).2).2).2).2):Int)) h rfl (AI rfl (AI NH (R2 (AJ (AI TV (AI TV ?_)))))))
   obtain ⟨q47_9,h,q⟩:=bE q
   refine OL (cA H39 (q47_8.1,q47_8.2.1,q47_8.2.2.1,q47_8.2.2.2.1,q47_8.2.2.2.2) h rfl (AI NH (R2 (AJ (AI TV (OL (EI (tU 0 3 (.take 4 (.alt 3 (.alt 5 (.alt 6 (.take 7 .done) .done) .done) .done))) (EI [] (EI [] (AI rfl (AI TV ?_)))))))))))
   obtain ⟨q48_3,h,q⟩:=bE q
   refine OL (cA H11 ((((((rd (Ty.z T0) t_L (((rd (Ty.z T0) t_L n).2).1)).2).2).2).2).1,q47_9) h rfl (R2 (K0 (AI TV (OL (AI TV (OL ?_)))))))
   cases sE q
   refine AI rfl (E4 (iuR [1,2,10,11,0,0]) (R2 (AI (R2 TV) (R6 TV))))
  refine OL (cI q (fun q=>?_) (fun q=>?_))
  ·refine OL ?_
   obtain ⟨q48_7,h,q⟩:=bE q
   refine OL (cA H42 (((((rd (Ty.z T0) t_L n).2).2).2).1,((((((rd (Ty.z T0) t_L (((rd (Ty.z T0) t_L n).2).1)).2).2).2).2).1,(((((rd (Ty.z T0) t_L (((rd (Ty.z T0) t_L n).2).1)).2).2).2).2).2),(g.1,g.2)) h rfl (R5 (K0 (OL (OL (EI (.take 0 (.take 1 (.alt 2 (.alt 3 (.take 4 .done) .done) .done))) (EI [] (EI [] (AI rfl (AI TV (OL (AI TV (OL ?_)))))))))))))
   cases sE q
   refine AI rfl (E4 (iuR [1,2,10,11,0,0]) (R2 (AI (R2 TV) (R6 TV))))
  refine OL (cI q (fun q=>?_) (fun q=>?_))
  ·obtain ⟨z13,hz13,q⟩:=bE q
   refine OQ ⟨[(0,⟨e5 [(10,P0 5 0),(11,P0 6 0),(12,P0 7 0),(42,P0 8 0)],h2 [(5,.cells [(.d T2 ((rd (Ty.z T0) t_L n).1)),(.d T2 (((rd (Ty.z T0) t_L n).2).1)),(.d T2 ((((rd (Ty.z T0) t_L n).2).2).1)),(.d T2 (((((rd (Ty.z T0) t_L n).2).2).2).1)),(.d T1 ((((((rd (Ty.z T0) t_L n).2).2).2).2).1)),(.d T1 ((((((rd (Ty.z T0) t_L n).2).2).2).2).2))]),(6,.cells [(.d T1 ((((((rd (Ty.z T0) t_L (((rd (Ty.z T0) t_L n).2).1)).2).2).2).2).1)),(.d T1 ((((((rd (Ty.z T0) t_L (((rd (Ty.z T0) t_L n).2).1)).2).2).2).2).2))]),(7,.cells [(.d T1 z4.1),(.d T1 z4.2)]),(8,.cells [(.osl 9),(.osl 10)]),(9,.arr 3 T2 z13.1),(10,.arr 42 T2 z13.2)],11⟩)],?_,?_⟩
   ·have q:=hz13
    clear hz13
    unfold f13_j6 at q
    obtain ⟨g53_0,q⟩:=gE q
    obtain ⟨q53_8,hq53_8,q⟩:=bE q
    refine EI (tU 0 8 (.alt 8 (tU 9 3 (.alt 12 (.alt 13 (.take 14 .done) .done) .done)) (.alt 12 (.alt 8 (tU 9 3 (.alt 13 (.take 14 .done) .done)) .done) .done))) (EI [] (EI [] (AI rfl (AI g53_0 (AI (AI TV ?_) ?_)))))
    ·refine AI TV (OL (cA H43 ((g.1,g.2),(z4.1,z4.2),((((rd (Ty.z T0) t_L n).2).2).2).1,(rd 0 ((((((rd (Ty.z T0) t_L (((rd (Ty.z T0) t_L n).2).1)).2).2).2).2).1) (1:Int))) hq53_8 rfl (R6 (K0 (AI TV (OL ?_))))))
     cases sE q
     refine E4 (iuR [1,2,3,4,5,7,8,9,10,11,12]) (AI rfl (AI (R7 TV) (R11 TV)))
    refine OL (cA H43 ((g.1,g.2),(z4.1,z4.2),((((rd (Ty.z T0) t_L n).2).2).2).1,(rd 0 ((((((rd (Ty.z T0) t_L (((rd (Ty.z T0) t_L n).2).1)).2).2).2).2).1) (1:Int))) hq53_8 rfl (R6 (K0 (AI TV (AI TV (OL ?_))))))
    cases sE q
    refine E4 (iuR [1,2,3,4,5,7,8,9,12,10,11]) (AI rfl (AI (R7 TV) (R11 TV)))
   refine AI ?_ TV
   obtain ⟨z14,hz14,q⟩:=bE q
   refine OQ ⟨[(0,⟨[(6,P0 2 0),(7,P0 3 0),(42,P0 4 0),(44,P0 5 0)],h4 [(4,.cells [(.osl 6),(.osl 7)]),(5,.cells [(.osl 8),(.osl 9)]),(6,.arr 3 T2 z13.1),(7,.arr 42 T2 z13.2),(8,.arr 3 T2 z14.1),(9,.arr 42 T2 z14.2)],10⟩)],?_,?_⟩
   ·have q:=hz14
    clear hz14
    unfold f13_j7 at q
    obtain ⟨g54_0,q⟩:=gE q
    obtain ⟨q54_8,hq54_8,q⟩:=bE q
    refine EI (tU 0 8 (.alt 8 (tU 9 3 (.alt 12 (.alt 13 (.take 14 .done) .done) .done)) (.alt 12 (.alt 8 (tU 9 3 (.alt 13 (.take 14 .done) .done)) .done) .done))) (EI [] (EI [] (AI rfl (AI g54_0 (AI (AI TV ?_) ?_)))))
    ·refine AI TV (OL (cA H44 ((g.1,g.2),((((((rd (Ty.z T0) t_L (((rd (Ty.z T0) t_L n).2).1)).2).2).2).2).1,(((((rd (Ty.z T0) t_L (((rd (Ty.z T0) t_L n).2).1)).2).2).2).2).2),((((rd (Ty.z T0) t_L n).2).2).2).1,(rd 0 z4.1 2)) hq54_8 rfl (R6 (K0 (AI TV (OL ?_))))))
     cases sE q
     refine E4 (iuR [1,2,4,5,9,12,10,11,13,14]) (AI rfl (AI (R4 TV) (R10 TV)))
    refine OL (cA H44 ((g.1,g.2),((((((rd (Ty.z T0) t_L (((rd (Ty.z T0) t_L n).2).1)).2).2).2).2).1,(((((rd (Ty.z T0) t_L (((rd (Ty.z T0) t_L n).2).1)).2).2).2).2).2),((((rd (Ty.z T0) t_L n).2).2).2).1,(rd 0 z4.1 2)) hq54_8 rfl (R6 (K0 (AI TV (AI TV (OL ?_))))))
    cases sE q
    refine E4 (iuR [1,2,4,5,9,14,10,11,12,13]) (AI rfl (AI (R4 TV) (R10 TV)))
   refine AI (OL (EI (.take 0 (.take 1 (.alt 2 (.alt 3 (.take 4 .done) .done) .done))) (EI [] (EI [] (AI rfl (AI TV (OL (AI TV (OL ?_))))))))) TV
   cases sE q
   refine AI rfl (E4 (iuR [1,2,7,8,9,10]) (R2 (AI (R2 TV) (R6 TV))))
  refine OL (cI q (fun q=>?_) (fun q=>?_))
  ·refine OL ?_
   obtain ⟨q55_4,h,q⟩:=bE q
   refine OL (cA H11 ((((((rd (Ty.z T0) t_L (((rd (Ty.z T0) t_L n).2).1)).2).2).2).2).1,(0:Int)) h rfl (R2 (K0 (OL (OL ?_)))))
   obtain ⟨r15,h,q⟩:=bE q
   refine OL (cA H45 (((((((rd (Ty.z T0) t_L (((rd (Ty.z T0) t_L n).2).1)).2).2).2).2).1,(((((rd (Ty.z T0) t_L (((rd (Ty.z T0) t_L n).2).1)).2).2).2).2).2),((((rd (Ty.z T0) t_L n).2).2).2).1) h rfl (R3 (K0 (OL (OL (OL ?_))))))
   obtain ⟨z16,h,q⟩:=bE q
   refine lJ h (fun x=>⟨e5 [(9,P0 5 0),(46,P0 6 0),(48,O0 7),(50,.dat T2 x.1)],h3 [(6,.cells [(.osl 8),(.osl 9)]),(7,.arr 3 T2 r15.2.2.2),(8,.arr 3 T2 q55_4.1),(9,.arr 42 T2 x.2)],10⟩) (fun z=>[(5,⟨[(6,P0 2 0),(7,P0 3 0),(9,P0 4 0),(46,P0 5 0)],h4 [(4,.cells [N0,N0]),(5,.cells [(.osl 6),(.osl 7)]),(6,.arr 3 T2 q55_4.1),(7,.arr 42 T2 z)],8⟩)]) (E4 (iuR [1,2,3,4,5,6,12,15,10,11]) (R2 (AI (R6 TV) (R10 TV)))) (fun m=>F6 (fun i=>fun l9 z q=>?_)) ?_
   ·have q:f13_l8 g r15 _ i l9=some z:=q
    unfold f13_l8 at q
    refine OL (OL (cI q (fun q=>?_) (fun q=>?_)))
    ·refine OL (EI (tU 0 12 (.alt 12 .done .done)) (EI [] (EI [] (AI rfl (gI q (fun q=>?_))))))
     refine gI q (fun q=>?_)
     refine gI q (fun q=>?_)
     refine AI TV (OL (EI ((i64.wrap (i+1)),(List.set l9 (Int.toNat (rd 0 r15.2.2.2 i)) (rd 0 g.2 i))) (AI q (E4 I10 (R2 (AI (R6 TV) (R10 TV)))))))
    cases sE q
    refine E4 (iuR [1,2,4,5,6,7,9,10]) (AI rfl (AI (R4 TV) (R8 TV)))
   refine AI (OL (EI (.take 0 (.take 1 (.alt 2 (.alt 3 (.take 4 .done) .done) .done))) (EI [] (EI [] (AI rfl (AI TV (OL (AI TV (OL ?_))))))))) TV
   cases sE q
   refine AI rfl (E4 (iuR [1,2,7,8,0,0]) (R2 (AI (R2 TV) (R6 TV))))
  refine OL ?_
  obtain ⟨q63_4,h,q⟩:=bE q
  refine OL (cA H46 ((g.1,g.2),(((((rd (Ty.z T0) t_L (((rd (Ty.z T0) t_L n).2).1)).2).2).2).2).1) h rfl (R3 (K0 (OL (OL (EI (.take 0 (.take 1 (.alt 2 (.alt 3 (.take 4 .done) .done) .done))) (EI [] (EI [] (AI rfl (AI TV (OL (AI TV (OL ?_)))))))))))))
  cases sE q
  refine AI rfl (E4 (iuR [1,2,10,11,0,0]) (R2 (AI (R2 TV) (R6 TV))))
 dsimp only [Fz] at q
 refine AI ?_ TV
 cases sE q
 refine AI rfl (E4 (iuR [1,2,0,0,0,0]) (R2 (AI (R2 TV) (R6 TV))))
theorem H13:HI C13 13:=hI Tryz.f13 rfl fun x=>V13 x.1 x.2.1 x.2.2
def f4_j1 (l:NL) (g:Fx):Option (Sum Unit Unit):=
 Ey (f6 l (20:Int)) fun r4=>
 bif (!r4) then
 some (Sum.inr ())
 else
 bif (decide ((g.1.length:Int)>10)) then
 some (Sum.inr ())
 else
 bif (decide ((g.2.length:Int)>60)) then
 some (Sum.inr ())
 else
 some (Sum.inl ())
def f4_j8 (n:Int) (fit:Bool) (r5b:NL×NL):Option Bool:=
 bif fit then
 bif (decide (n≥0)) then
 some (decide (n<r5b.2.length))
 else
 some false
 else
 some false
def f4_j12 (g:Fx) (i:Int) (l7:LI):Option (Sum Unit Unit):=
 bif (decide (i<l7.length)) then
 bif (decide ((g.2.length:Int)>0)) then
 some (Sum.inl ())
 else
 some (Sum.inr ())
 else
 some (Sum.inr ())
def f4_l11 (g:Fx) (go:Jv→Option LI) (i:Int) (l7:LI):Option LI:=
 Ey (f4_j12 g i l7) fun z18=>
 Fz z18 (fun z18a=>
 E9 ((g.2.length:Int)≠0)<|
 E9 (0≤(Int.tmod i (g.2.length:Int))∧(Int.tmod i (g.2.length:Int))<g.2.length)<|
 E9 (0≤i∧i<l7.length)<|
 go ((i64.wrap (i+1)),(List.set l7 (Int.toNat i) (rd 0 g.2 (Int.tmod i (g.2.length:Int)))))) (fun z18b=>
 some l7)
def f4_j7 (n:Int) (g:Fx) (fit:Bool) (r5b:NL×NL):Option Fx:=
 Ey (f4_j8 n fit r5b) fun z13=>
 bif z13 then
 E9 (0≤n∧n<r5b.2.length)<|
 Ey (f11 ((((((rd (Ty.z T0) r5b.2 n).2).2).2).2).1) (0:Int)) fun r14=>
 Ey (Fp (fun go x=>f4_l11 g go x.1 x.2) Fv ((0:Int),r14.2)) fun z17=>
 some (r14.1,z17)
 else
 some (g.1,g.2)
def f4 (l:NL) (n:Int) (g:Fx) (fit:Bool):Option Bool:=
 Ey (f5) fun r1=>
 bif (!r1) then
 some false
 else
 Ey (f4_j1 l g) fun z3=>
 Fz z3 (fun z3a=>
 Ey (f7 l) fun r5=>
 Fz r5 (fun r5a=>
 some false) (fun r5b=>
 Ey (f4_j7 n g fit r5b) fun z12=>
 Ey (f12 r5b.1 n (z12.1,z12.2)) fun q14_13=>
 Ey (f13 r5b.2 n (z12.1,z12.2)) fun r19=>
 bif (q14_13.1==r19.1) then
 Ey (f10 (q14_13.2.1,q14_13.2.2.1) (r19.2.1,r19.2.2.1)) fun r20=>
 bif r20 then
 Ey (f10 (q14_13.2.2.2.1,q14_13.2.2.2.2.1) (r19.2.2.2.1,r19.2.2.2.2.1)) fun r21=>
 some r21
 else
 some false
 else
 some false)) (fun z3b=>
 some true)
def C4:Con where
 X:=NL×Int×Fx×Bool
 Y:=Bool
 e:=0
 args x:=[.dat T6 x.1,.dat T2 x.2.1,.dat T3 x.2.2.1,.dat .bool x.2.2.2]
 hin x:=[]
 F x:=f4 x.1 x.2.1 x.2.2.1 x.2.2.2
 ret y:=[.dat .bool y]
 hout y:=[]
 nout:=0
theorem V4 l n g fit y (q:f4 l n g fit=some y):VC Tryz.f4 C4 (l,n,g,fit) y:=by
 unfold f4 at q
 refine OL (OL (OL ?_))
 obtain ⟨r1,h,q⟩:=bE q
 refine OL (cA H5 () h rfl (K0 (cI q (fun q=>?_) (fun q=>?_))))
 ·cases sE q
  refine OL (AI rfl (E4 [] (R2 (AI TV TV))))
 obtain ⟨z3,hz3,q⟩:=bE q
 let h0:LH:=fun zz=>(0,.cells [(.d T1 g.1),(.d T1 g.2)])::zz
 refine OQ ⟨Sum.elim (fun z3a=>[(0,⟨[(0,.dat T6 l),(1,.dat T2 n),(3,.dat .bool fit),(6,P0 0 0)],h0 [],1⟩)]) (fun z3b=>[(1,⟨[(8,.dat .bool true)],[],0⟩)]) z3,?_,?_⟩
 ·have q:=hz3
  clear hz3
  unfold f4_j1 at q
  refine OL ?_
  obtain ⟨r4,h,q⟩:=bE q
  refine OL (cA H6 (l,(20:Int)) h rfl (R2 (K0 (cN q (fun q=>?_) (fun q=>?_)))))
  ·refine gY (gY (gY (cF (cN q (fun q=>?_) (fun q=>?_)))))
   ·refine gY (gY (gY (cF (cI q (fun q=>?_) (fun q=>?_)))))
    ·cases sE q
     refine OL (E4 [] (R2 (AI TV TV)))
    cases sE q
    refine E4 (iuR [1]) (R4 (AJ (AI rfl TV)))
   refine gN (gN (gN (cT (cT (OL ?_)))))
   cases sE q
   refine E4 [] (R2 (AI TV TV))
  refine gN (gN (gN (cT (gN (gN (gN (gN (cT (cT (OL ?_))))))))))
  cases sE q
  refine E4 [] (R2 (AI TV TV))
 rcases z3 with z3a | z3b
 ·dsimp only [Fz] at q
  refine AI (OL ?_) TV
  obtain ⟨r5,hr5,q⟩:=bE q
  rcases r5 with r5a | r5b
  ·dsimp only [Fz] at q
   refine OL (cA H7 l hr5 rfl (AI rfl (K0 (OL (OL (cT (OL ?_)))))))
   cases sE q
   refine AI rfl (E4 [] (R2 (AI TV TV)))
  dsimp only [Fz] at q
  refine OL (cA H7 l hr5 rfl (AI rfl (K0 (OL (OL (cF ?_))))))
  obtain ⟨z12,hz12,q⟩:=bE q
  let e1:LE:=fun zz=>(1,.dat T2 n)::(6,P0 0 0)::(9,P0 1 0)::(10,P0 2 0)::zz
  refine OQ ⟨[(0,⟨e1 [],[(0,.cells [(.d T1 z12.1),(.d T1 z12.2)]),(1,.cells [(.osl 3)]),(2,.cells [(.osl 4)]),(3,.arr 65 T0 r5b.1),(4,.arr 44 T0 r5b.2)],5⟩)],?_,?_⟩
  ·have q:=hz12
   clear hz12
   unfold f4_j7 at q
   obtain ⟨z13,hz13,q⟩:=bE q
   refine OQ ⟨[(0,⟨e1 [(59,.dat .bool z13)],h0 [(1,.cells [(.osl 3)]),(2,.cells [(.osl 4)]),(3,.arr 65 T0 r5b.1),(4,.arr 44 T0 r5b.2)],5⟩)],?_,?_⟩
   ·have q:=hz13
    clear hz13
    unfold f4_j8 at q
    refine cI q (fun q=>?_) (fun q=>?_)
    ·refine gX (cT (cI q (fun q=>?_) (fun q=>?_)))
     ·refine gX (gX (gX (gX (gX (gX (cT ?_))))))
      cases sE q
      refine E4 I5 (R3 (AI (R3 TV) (R5 TV)))
     refine gM (gM (gM (gM (gM (gM (cF ?_))))))
     cases sE q
     refine E4 I5 (R3 (AI (R3 TV) (R5 TV)))
    refine gM (cF (gM (gM (gM (gM (gM (gM (gM (cF ?_)))))))))
    cases sE q
    refine E4 I5 (R3 (AI (R3 TV) (R5 TV)))
   refine AI (cI q (fun q=>?_) (fun q=>?_)) TV
   ·refine OL (gI q (fun q=>?_))
    refine OL ?_
    obtain ⟨r14,h,q⟩:=bE q
    refine OL (cA H11 ((((((rd (Ty.z T0) r5b.2 n).2).2).2).2).1,(0:Int)) h rfl (R2 (K0 (OL (OL (OL ?_))))))
    obtain ⟨z17,hz17,q⟩:=bE q
    let h2:LH:=fun zz=>h0 ((1,.cells [(.osl 4)])::(2,.cells [(.osl 5)])::(3,.cells [(.osl 6),(.osl 7)])::(4,.arr 65 T0 r5b.1)::(5,.arr 44 T0 r5b.2)::(6,.arr 3 T2 r14.1)::zz)
    refine lJ hz17 (fun x=>⟨e1 [(13,P0 3 0),(14,.dat T2 x.1)],h2 [(7,.arr 42 T2 x.2)],8⟩) (fun z=>[(2,⟨e1 [(13,P0 3 0)],h2 [(7,.arr 42 T2 z)],8⟩)]) (E4 (iuR [1,2,3,8,4,5,6,7]) (R3 (AI (R4 TV) (R8 TV)))) (fun m=>F6 (fun i=>fun l7 z q=>?_)) ?_
    ·have q:f4_l11 g _ i l7=some z:=q
     unfold f4_l11 at q
     obtain ⟨z18,hz18,q⟩:=bE q
     refine OQ ⟨Sum.elim (fun z18a=>[(0,⟨e1 [(13,P0 3 0),(14,.dat T2 i)],h2 [(7,.arr 42 T2 l7)],8⟩)]) (fun z18b=>[(2,⟨e1 [(13,P0 3 0)],h2 [(7,.arr 42 T2 l7)],8⟩)]) z18,?_,?_⟩
     ·have q:=hz18
      clear hz18
      unfold f4_j12 at q
      refine OL (cI q (fun q=>?_) (fun q=>?_))
      ·refine gX (gX (gX (cT (cI q (fun q=>?_) (fun q=>?_)))))
       ·cases sE q
        refine E4 I8 (R3 (AI (R4 TV) (R8 TV)))
       cases sE q
       refine E4 I8 (R2 (AI (R4 TV) (R8 TV)))
      refine gM (gM (gM (cF (cF ?_))))
      cases sE q
      refine E4 I8 (R2 (AI (R4 TV) (R8 TV)))
     rcases z18 with z18a | z18b
     ·dsimp only [Fz] at q
      refine AI (OL (EI (tU 0 13 (.alt 13 .done .done)) (EI [] (EI [] (AI rfl (gI q (fun q=>?_))))))) TV
      refine gI q (fun q=>?_)
      refine gI q (fun q=>?_)
      refine AI TV (OL (EI ((i64.wrap (i+1)),(List.set l7 (Int.toNat i) (rd 0 g.2 (Int.tmod i (g.2.length:Int))))) (AI q (E4 I8 (R3 (AI (R4 TV) (R8 TV)))))))
     dsimp only [Fz] at q
     refine AI ?_ TV
     cases sE q
     refine E4 I8 (R2 (AI (R4 TV) (R8 TV)))
    refine AI (OL ?_) TV
    cases sE q
    refine EI [] (EI [] (EI [] (EI [6,7] (EI (iuR [1,2,3,5,6]) (R2 (AI (R3 TV) (R5 TV)))))))
   cases sE q
   refine E4 I5 (R2 (AI (R3 TV) (R5 TV)))
  refine AI (OL ?_) TV
  obtain ⟨q14_13,h,q⟩:=bE q
  refine OL (cB H12 (r5b.1,n,(z12.1,z12.2)) (iuR [2,4]) false h rfl (R3 (AI NH (R2 (AJ (AI (R2 TV) (OL (OL (OL ?_)))))))))
  obtain ⟨r19,h,q⟩:=bE q
  refine OL (cB H13 (r5b.2,n,(z12.1,z12.2)) (iuR [3,5]) false h rfl (R3 (AI NH (R2 (AJ (AI (R2 TV) (OL (OL (OL (cI q (fun q=>?_) (fun q=>?_)))))))))))
  ·refine gX (gX ?_)
   obtain ⟨r20,h,q⟩:=bE q
   refine OL (cD H10 ((q14_13.2.1,q14_13.2.2.1),(r19.2.1,r19.2.2.1)) h rfl (R4 (AI (fun _=>rfl) (R2 (AI TV (AI TV (cT (cI q (fun q=>?_) (fun q=>?_)))))))))
   ·refine gX (gX ?_)
    obtain ⟨r21,h,q⟩:=bE q
    refine OL (cD H10 ((q14_13.2.2.2.1,q14_13.2.2.2.2.1),(r19.2.2.2.1,r19.2.2.2.2.1)) h rfl (R4 (AI (fun _=>rfl) (R2 (AI TV (AI TV (cT ?_)))))))
    cases sE q
    refine AI rfl (E4 [] (R2 (AI TV TV)))
   refine gM (gM (cF ?_))
   cases sE q
   refine AI rfl (E4 [] (R2 (AI TV TV)))
  refine gM (gM (cF (gM (gM (gM (cF ?_))))))
  cases sE q
  refine AI rfl (E4 [] (R2 (AI TV TV)))
 dsimp only [Fz] at q
 refine AI ?_ TV
 cases sE q
 refine AI rfl (E4 [] (R2 (AI TV TV)))
theorem H4:HI C4 4:=hI Tryz.f4 rfl fun x=>V4 x.1 x.2.1 x.2.2.1 x.2.2.2
end Go.Proofs
