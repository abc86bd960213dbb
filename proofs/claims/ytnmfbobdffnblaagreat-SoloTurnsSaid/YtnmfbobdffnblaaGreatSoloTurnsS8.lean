import Derived.Test.YtnmfbobdffnblaaGreatSoloTurnsS7
set_option linter.unusedVariables false
set_option maxRecDepth 100000
set_option maxHeartbeats 8000000
namespace Go.Proofs
open Go.AM
open IntKind (i64 u64 i32 u32 i16 u16 i8 u8)
def f130_j3 (t_L:NL) (n:Int) (g:Al):Option Bool:=
 bif (decide (n<0)) then
 some true
 else
 bif (decide (n≥t_L.length)) then
 some true
 else
 Ac (f156 (g.1,g.2)) fun q2_13=>
 bif (!q2_13) then
 some true
 else
 Ad (0≤n∧n<t_L.length)<|
 Ac (f88 g.1 ((((((rd (Ty.z T7) t_L n).2).2).2).2).1)) fun q2_28=>
 some (!q2_28)
def f130_j2 (t_L:NL) (n:Int) (g:Al):Option Unit:=
 Ac (f130_j3 t_L n g) fun z3=>
 bif z3 then
 none
 else
 some ()
def f130_j4 (t_L:NL) (n:Int):Option Al:=
 bif (decide (((((rd (Ty.z T7) t_L n).2).2).1)≥0)) then
 Ad (0≤(((rd (Ty.z T7) t_L n).2).2).1∧(((rd (Ty.z T7) t_L n).2).2).1<t_L.length)<|
 some ((((((rd (Ty.z T7) t_L ((((rd (Ty.z T7) t_L n).2).2).1)).2).2).2).2).1,(((((rd (Ty.z T7) t_L ((((rd (Ty.z T7) t_L n).2).2).1)).2).2).2).2).2)
 else
 some ([],[])
def f130_l5 (t_L:NL) (n:Int) (g:Al) (go:Bc→Option LI) (i:Int) (l9:LI):Option LI:=
 bif (decide (i<l9.length)) then
 Ac (f165 ((((((rd (Ty.z T7) t_L (((rd (Ty.z T7) t_L n).2).1)).2).2).2).2).1) i) fun r9=>
 Ad (0≤((((rd (Ty.z T7) t_L n).2).2).2).1∧((((rd (Ty.z T7) t_L n).2).2).2).1≤r9.2.length)<|
 Ad (0≤(i64.wrap ((((((rd (Ty.z T7) t_L n).2).2).2).1)+1))∧(i64.wrap ((((((rd (Ty.z T7) t_L n).2).2).2).1)+1))≤r9.2.length)<|
 Ad ((List.length ([]:LI)+List.length (List.take (Int.toNat (((((rd (Ty.z T7) t_L n).2).2).2).1)) r9.2))*8≤140737488355328)<|
 Ad ((List.length (([]:LI)++(List.take (Int.toNat (((((rd (Ty.z T7) t_L n).2).2).2).1)) r9.2))+List.length (List.drop (Int.toNat (i64.wrap ((((((rd (Ty.z T7) t_L n).2).2).2).1)+1))) r9.2))*8≤140737488355328)<|
 Ac (f166 g.1 ((([]:LI)++(List.take (Int.toNat (((((rd (Ty.z T7) t_L n).2).2).2).1)) r9.2))++(List.drop (Int.toNat (i64.wrap ((((((rd (Ty.z T7) t_L n).2).2).2).1)+1))) r9.2))) fun q40_10=>
 Ad (0≤q40_10.1∧q40_10.1<g.2.length)<|
 Ad (0≤i∧i<l9.length)<|
 go ((i64.wrap (i+1)),(List.set l9 (Int.toNat i) (rd 0 g.2 q40_10.1)))
 else
 some l9
def f130 (t_L:NL) (n:Int) (g:Al):Option (LI×LI×LI×LI×NL):=
 Ac (f130_j2 t_L n g) fun z2=>
 Ad (0≤n∧n<t_L.length)<|
 bif (((rd (Ty.z T7) t_L n).1)==1) then
 some ([],[],[],[],t_L)
 else
 Ad (0≤((rd (Ty.z T7) t_L n).2).1∧((rd (Ty.z T7) t_L n).2).1<t_L.length)<|
 Ac (f130_j4 t_L n) fun z4=>
 bif (((rd (Ty.z T7) t_L n).1)==2) then
 Ac (f161 (g.1,g.2) ((((((rd (Ty.z T7) t_L (((rd (Ty.z T7) t_L n).2).1)).2).2).2).2).1)) fun q13_3=>
 Ac (f161 (g.1,g.2) z4.1) fun q13_7=>
 some (q13_3.1,q13_3.2,q13_7.1,q13_7.2,t_L)
 else
 bif (((rd (Ty.z T7) t_L n).1)==3) then
 Ac (f162 (g.1,g.2) (-4294967296:Int)) fun q13_10=>
 Ac (f161 (g.1,g.2) ((((((rd (Ty.z T7) t_L (((rd (Ty.z T7) t_L n).2).1)).2).2).2).2).1)) fun q16_3=>
 Ac (f161 (q13_10.1,q13_10.2) z4.1) fun q16_7=>
 some (q16_3.1,q16_3.2,q16_7.1,q16_7.2,t_L)
 else
 bif (((rd (Ty.z T7) t_L n).1)==4) then
 Ac (f131 (2:Int) (g.1,g.2) (z4.1,z4.2)) fun q16_10=>
 Ac (f131 (2:Int) (g.1,g.2) ((((((rd (Ty.z T7) t_L (((rd (Ty.z T7) t_L n).2).1)).2).2).2).2).1,(((((rd (Ty.z T7) t_L (((rd (Ty.z T7) t_L n).2).1)).2).2).2).2).2)) fun r5=>
 Ac (f161 (q16_10.2.1,q16_10.2.2) ((((((rd (Ty.z T7) t_L (((rd (Ty.z T7) t_L n).2).1)).2).2).2).2).1)) fun q20_3=>
 Ac (f161 (r5.2.1,r5.2.2) z4.1) fun q20_7=>
 some (q20_3.1,q20_3.2,q20_7.1,q20_7.2,t_L)
 else
 bif (((rd (Ty.z T7) t_L n).1)==5) then
 none
 else
 bif (((rd (Ty.z T7) t_L n).1)==6) then
 none
 else
 bif (((rd (Ty.z T7) t_L n).1)==7) then
 none
 else
 bif (((rd (Ty.z T7) t_L n).1)==8) then
 Ac (f129 ((((((rd (Ty.z T7) t_L (((rd (Ty.z T7) t_L n).2).1)).2).2).2).2).1) (0:Int)) fun q20_10=>
 Ac (Ag (fun go x=>f130_l5 t_L n g go x.1 x.2) Ah ((0:Int),q20_10.2)) fun z8=>
 some (q20_10.1,z8,[],[],t_L)
 else
 bif (((rd (Ty.z T7) t_L n).1)==9) then
 none
 else
 bif (((rd (Ty.z T7) t_L n).1)==10) then
 Ad (0≤(0:Int)∧0<(g.2.length:Int))<|
 Ac (f58 (rd 0 g.2 0)) fun q47_4=>
 Ac (f98 q47_4.1 q47_4.2 (0:Int) (0:Int) (0:Int) (List.length ((((((rd (Ty.z T7) t_L (((rd (Ty.z T7) t_L n).2).1)).2).2).2).2).2):Int)) fun q47_8=>
 Ac (f97 q47_8.1 q47_8.2.1 q47_8.2.2.1 q47_8.2.2.2.1 q47_8.2.2.2.2) fun q47_9=>
 Ac (f129 ((((((rd (Ty.z T7) t_L (((rd (Ty.z T7) t_L n).2).1)).2).2).2).2).1) q47_9) fun q48_3=>
 some (q48_3.1,q48_3.2,[],[],t_L)
 else
 bif (((rd (Ty.z T7) t_L n).1)==11) then
 none
 else
 bif (((rd (Ty.z T7) t_L n).1)==12) then
 none
 else
 bif (((rd (Ty.z T7) t_L n).1)==13) then
 none
 else
 none
def C130:Con:=⟨NL×Bl,LI×LI×LI×LI×NL,2,fun x=>[P0 0 0,.dat T0 x.2.1,.dat T8 x.2.2],fun x=>[(0,.cells [(.osl 1)]),(1,.arr 176 T7 x.1)],fun x=>f130 x.1 x.2.1 x.2.2,fun y=>[.raw true [(.osl 2),(.osl 3)],.raw true [(.osl 4),(.osl 5)],D0 0],fun y=>[(0,.cells [(.osl 1)]),(1,.arr 176 T7 y.2.2.2.2),(2,.arr 3 T0 y.1),(3,.arr 26 T0 y.2.1),(4,.arr 3 T0 y.2.2.1),(5,.arr 26 T0 y.2.2.2.1)],6⟩
theorem V130 t_L n g y (q:f130 t_L n g=some y):VE Tryz.f130 2 C130 (t_L,n,g) y:=by
 unfold f130 at q
 refine OL (OL (OL ?_))
 obtain ⟨z2,hz2,q⟩:=bE q
 let e0:LE:=fun zz=>(0,P0 0 0)::(1,.dat T0 n)::(5,P0 2 0)::(6,P0 3 0)::(7,P0 4 0)::(9,P0 5 0)::zz
 let h1:LH:=fun zz=>(0,.cells [(.osl 1)])::(1,.arr 176 T7 t_L)::zz
 let h2:LH:=fun zz=>h1 ((2,.cells [(.d T5 g.1),(.d T5 g.2)])::(3,.cells [N0,N0])::(4,.cells [N0,N0])::(5,.cells [N0,N0])::zz)
 refine OQ ⟨[(0,⟨e0 [],h2 [],6⟩)],?_,?_⟩
 ·have q:=hz2
  clear hz2
  unfold f130_j2 at q
  obtain ⟨z3,hz3,q⟩:=bE q
  refine OQ ⟨[(0,⟨e0 [(84,.dat .bool z3)],h2 [],6⟩)],?_,?_⟩
  ·have q:=hz3
   clear hz3
   unfold f130_j3 at q
   refine EI (tU 0 13 (.alt 13 (tU 14 14 (.alt 28 (.take 29 (.take 30 .done)) .done)) .done)) (EI [] (EI [] (AI rfl (cN q (fun q=>?_) (fun q=>?_)))))
   ·refine gY (gY (gY (gY (gY (gY (cF (cN q (fun q=>?_) (fun q=>?_))))))))
    ·refine AI TV (gY ?_)
     obtain ⟨q2_13,h,q⟩:=bE q
     refine OL (cA H156 (g.1,g.2) h rfl (R2 (K0 (gY (cF (cN q (fun q=>?_) (fun q=>?_)))))))
     ·refine gY (gY (gY (gY (gY (gY (gY (gI q (fun q=>?_))))))))
      refine gY (gY (gY (AI TV (gY ?_))))
      obtain ⟨q2_28,h,q⟩:=bE q
      refine OL (cA H88 (g.1,(((((rd (Ty.z T7) t_L n).2).2).2).2).1) h rfl (R2 (K0 (gY (cF ?_)))))
      cases sE q
      refine E4 I6 (R3 (AI (R5 TV) (R6 TV)))
     refine gN (gN (gN (gN (gN (gN (gN (gN (gN (gN (AI TV (gN (gN (cT ?_)))))))))))))
     cases sE q
     refine E4 I6 (R3 (AI (R5 TV) (R6 TV)))
    refine AI TV (gN (gN (cT (gN (gN (gN (gN (gN (gN (gN (gN (gN (gN (gN (AI TV (gN (gN (cT ?_))))))))))))))))))
    cases sE q
    refine E4 I6 (R3 (AI (R5 TV) (R6 TV)))
   refine gN (gN (gN (gN (gN (gN (cT (gN (AI TV (gN (gN (cT (gN (gN (gN (gN (gN (gN (gN (gN (gN (gN (gN (AI TV (gN (gN (cT ?_))))))))))))))))))))))))))
   cases sE q
   refine E4 I6 (R3 (AI (R5 TV) (R6 TV)))
  refine AI (cI q (fun q=>?_) (fun q=>?_)) TV
  ·exact nomatch q
  cases sE q
  refine E4 I6 (R2 (AI (R5 TV) (R6 TV)))
 refine AI (OL (gI q (fun q=>?_))) TV
 refine OL (OL (OL (cI q (fun q=>?_) (fun q=>?_))))
 ·refine OL (EI (.take 0 (.take 1 (.alt 2 (.alt 3 (.take 4 .done) .done) .done))) (EI [] (EI [] (AI rfl (AI TV (OL (AI TV (OL ?_))))))))
  cases sE q
  refine AI rfl (E4 (iuR [1,2,0,0,0,0]) (R2 (AI (R2 TV) (R6 TV))))
 refine OL (EI (tU 0 9 (.alt 9 (.alt 10 .done .done) .done)) (EI [] (EI [] (AI rfl (gI q (fun q=>?_))))))
 refine AI TV (AI TV (OL (OL (OL ?_))))
 obtain ⟨z4,hz4,q⟩:=bE q
 refine OQ ⟨[(0,⟨[(5,P0 2 0),(6,P0 3 0),(7,P0 4 0),(9,P0 5 0),(10,P0 6 0),(11,P0 7 0),(12,P0 8 0)],h2 [(6,.cells [(.d T0 ((rd (Ty.z T7) t_L n).1)),(.d T0 (((rd (Ty.z T7) t_L n).2).1)),(.d T0 ((((rd (Ty.z T7) t_L n).2).2).1)),(.d T0 (((((rd (Ty.z T7) t_L n).2).2).2).1)),(.d T5 ((((((rd (Ty.z T7) t_L n).2).2).2).2).1)),(.d T5 ((((((rd (Ty.z T7) t_L n).2).2).2).2).2))]),(7,.cells [(.d T5 ((((((rd (Ty.z T7) t_L (((rd (Ty.z T7) t_L n).2).1)).2).2).2).2).1)),(.d T5 ((((((rd (Ty.z T7) t_L (((rd (Ty.z T7) t_L n).2).1)).2).2).2).2).2))]),(8,.cells [(.d T5 z4.1),(.d T5 z4.2)])],9⟩)],?_,?_⟩
 ·have q:=hz4
  clear hz4
  unfold f130_j4 at q
  refine OL (cI q (fun q=>?_) (fun q=>?_))
  ·refine EI (tU 0 9 (.alt 9 .done .done)) (EI [] (EI [] (AI rfl (gI q (fun q=>?_)))))
   refine AI TV (OL ?_)
   cases sE q
   refine E4 I9 (AI rfl (AI (R7 TV) (R9 TV)))
  cases sE q
  refine EI [] (EI [] (EI [(8,0,T0),(8,1,T0)] (EI [] (EI I9 (AI rfl (AI (R7 TV) (R9 TV)))))))
 refine AI (OL (OL (OL (cI q (fun q=>?_) (fun q=>?_))))) TV
 ·refine OL (EI (tU 0 3 (tU 4 3 (.alt 3 (.alt 7 (.alt 8 (.alt 9 (.take 10 .done) .done) .done) .done) .done))) (EI [] (EI [] (AI rfl (AI TV ?_)))))
  obtain ⟨q13_3,h,q⟩:=bE q
  refine OL (cA H161 ((g.1,g.2),(((((rd (Ty.z T7) t_L (((rd (Ty.z T7) t_L n).2).1)).2).2).2).2).1) h rfl (R3 (K0 (AI TV ?_))))
  obtain ⟨q13_7,h,q⟩:=bE q
  refine OL (cA H161 ((g.1,g.2),z4.1) h rfl (R3 (K0 (AI TV (OL (AI TV (OL ?_)))))))
  cases sE q
  refine AI rfl (E4 (iuR [1,2,10,11,12,13]) (R2 (AI (R2 TV) (R6 TV))))
 refine OL (cI q (fun q=>?_) (fun q=>?_))
 ·refine OL ?_
  obtain ⟨q13_10,hq13_10,q⟩:=bE q
  have hq13_10:C162.F ((g.1,g.2),(-4294967296:Int))=some q13_10:=hq13_10
  refine OL (cA H162 _ hq13_10 rfl (R3 (K0 (OL (OL (EI (tU 0 3 (tU 4 3 (.alt 3 (.alt 7 (.alt 8 (.alt 9 (.take 10 .done) .done) .done) .done) .done))) (EI [] (EI [] (AI rfl (AI TV ?_))))))))))
  obtain ⟨q16_3,h,q⟩:=bE q
  refine OL (cA H161 ((g.1,g.2),(((((rd (Ty.z T7) t_L (((rd (Ty.z T7) t_L n).2).1)).2).2).2).2).1) h rfl (R3 (K0 (AI TV ?_))))
  obtain ⟨q16_7,h,q⟩:=bE q
  refine OL (cD H161 ((q13_10.1,q13_10.2),z4.1) h rfl (R3 (AI (fun _=>rfl) (R2 (AI TV (AI TV (AI TV (OL (AI TV (OL ?_))))))))))
  cases sE q
  refine AI rfl (E4 (iuR [1,2,13,14,15,16]) (R2 (AI (R2 TV) (R6 TV))))
 refine OL (cI q (fun q=>?_) (fun q=>?_))
 ·refine OL ?_
  obtain ⟨q16_10,h,q⟩:=bE q
  refine OL (cA H131 ((2:Int),(g.1,g.2),(z4.1,z4.2)) h rfl (R5 (K0 (OL (OL ?_)))))
  obtain ⟨r5,h,q⟩:=bE q
  refine OL (cA H131 ((2:Int),(g.1,g.2),((((((rd (Ty.z T7) t_L (((rd (Ty.z T7) t_L n).2).1)).2).2).2).2).1,(((((rd (Ty.z T7) t_L (((rd (Ty.z T7) t_L n).2).1)).2).2).2).2).2)) h rfl (R5 (K0 (OL (OL (EI (tU 0 3 (tU 4 3 (.alt 3 (.alt 7 (.alt 8 (.alt 9 (.take 10 .done) .done) .done) .done) .done))) (EI [] (EI [] (AI rfl (AI TV ?_))))))))))
  obtain ⟨q20_3,h,q⟩:=bE q
  refine OL (cD H161 ((q16_10.2.1,q16_10.2.2),(((((rd (Ty.z T7) t_L (((rd (Ty.z T7) t_L n).2).1)).2).2).2).2).1) h rfl (R3 (AI (fun _=>rfl) (R2 (AI TV (AI TV (AI TV ?_)))))))
  obtain ⟨q20_7,h,q⟩:=bE q
  refine OL (cD H161 ((r5.2.1,r5.2.2),z4.1) h rfl (R3 (AI (fun _=>rfl) (R2 (AI TV (AI TV (AI TV (OL (AI TV (OL ?_))))))))))
  cases sE q
  refine AI rfl (E4 (iuR [1,2,16,17,18,19]) (R2 (AI (R2 TV) (R6 TV))))
 refine OL (cI q (fun q=>?_) (fun q=>?_))
 ·exact nomatch q
 refine OL (cI q (fun q=>?_) (fun q=>?_))
 ·exact nomatch q
 refine OL (cI q (fun q=>?_) (fun q=>?_))
 ·exact nomatch q
 refine OL (cI q (fun q=>?_) (fun q=>?_))
 ·refine OL ?_
  obtain ⟨q20_10,h,q⟩:=bE q
  refine OL (cA H129 ((((((rd (Ty.z T7) t_L (((rd (Ty.z T7) t_L n).2).1)).2).2).2).2).1,(0:Int)) h rfl (R2 (K0 (OL (OL (OL (OL ?_)))))))
  obtain ⟨z8,h,q⟩:=bE q
  refine lJ h (fun x=>⟨[(5,P0 2 0),(6,P0 3 0),(7,P0 4 0),(9,P0 5 0),(11,P0 6 0),(31,P0 7 0),(32,.dat T0 (((((rd (Ty.z T7) t_L n).2).2).2).1)),(33,.dat T0 x.1)],h2 [(6,.cells [(.d T5 ((((((rd (Ty.z T7) t_L (((rd (Ty.z T7) t_L n).2).1)).2).2).2).2).1)),(.d T5 ((((((rd (Ty.z T7) t_L (((rd (Ty.z T7) t_L n).2).1)).2).2).2).2).2))]),(7,.cells [(.osl 8),(.osl 9)]),(8,.arr 3 T0 q20_10.1),(9,.arr 26 T0 x.2)],10⟩) (fun z=>[(3,⟨[(6,P0 2 0),(7,P0 3 0),(9,P0 4 0),(31,P0 5 0)],h1 [(2,.cells [N0,N0]),(3,.cells [N0,N0]),(4,.cells [N0,N0]),(5,.cells [(.osl 6),(.osl 7)]),(6,.arr 3 T0 q20_10.1),(7,.arr 26 T0 z)],8⟩)]) (E4 (iuR [1,2,3,4,5,6,8,12,10,11]) (R3 (AI (R6 TV) (R10 TV)))) (fun m=>An (fun i=>fun l9 z q=>?_)) ?_
  ·have q:f130_l5 t_L n g _ i l9=some z:=q
   unfold f130_l5 at q
   refine OL (OL (cI q (fun q=>?_) (fun q=>?_)))
   ·refine OL (OL ?_)
    obtain ⟨r9,h,q⟩:=bE q
    refine OL (cA H165 ((((((rd (Ty.z T7) t_L (((rd (Ty.z T7) t_L n).2).1)).2).2).2).2).1,i) h rfl (R2 (K0 (OL (EI (tU 1 3 (tU 5 4 (.alt 0 (.alt 4 (.alt 9 (.take 10 .done) .done) .done) .done))) (EI [] (EI [10] (AI rfl (gI q (fun q=>?_))))))))))
    refine gI q (fun q=>?_)
    refine AI TV (OL (AI TV (OL (gI q (fun q=>?_)))))
    refine AI TV (OL (gI q (fun q=>?_)))
    refine OL ?_
    obtain ⟨q40_10,h,q⟩:=bE q
    refine OL (cD H166 (g.1,((([]:LI)++(List.take (Int.toNat (((((rd (Ty.z T7) t_L n).2).2).2).1)) r9.2))++(List.drop (Int.toNat (i64.wrap ((((((rd (Ty.z T7) t_L n).2).2).2).1)+1))) r9.2))) h rfl (R2 (AI (fun _=>rfl) (R2 (AI TV (AI TV (EI (tU 0 9 (.alt 9 .done .done)) (EI [] (EI [] (AI rfl (gI q (fun q=>?_))))))))))))
    refine gI q (fun q=>?_)
    refine AI TV (OL (EI ((i64.wrap (i+1)),(List.set l9 (Int.toNat i) (rd 0 g.2 q40_10.1))) (AI q (E4 I10 (R3 (AI (R6 TV) (R10 TV)))))))
   cases sE q
   refine E4 (iuR [1,2,4,5,6,8,9,10]) (AI rfl (AI (R4 TV) (R8 TV)))
  refine AI (OL (EI (.take 0 (.take 1 (.alt 2 (.alt 3 (.take 4 .done) .done) .done))) (EI [] (EI [] (AI rfl (AI TV (OL (AI TV (OL ?_))))))))) TV
  cases sE q
  refine AI rfl (E4 (iuR [1,2,7,8,0,0]) (R2 (AI (R2 TV) (R6 TV))))
 refine OL (cI q (fun q=>?_) (fun q=>?_))
 ·exact nomatch q
 refine OL (cI q (fun q=>?_) (fun q=>?_))
 ·refine OL (EI (tU 0 4 (tU 5 3 (.alt 4 (.alt 8 (.alt 9 (.take 10 .done) .done) .done) .done))) (EI [] (EI [] (AI rfl (gI q (fun q=>?_))))))
  refine AI TV ?_
  obtain ⟨q47_4,h,q⟩:=bE q
  refine OL (cA H58 (rd (0:Int) g.2 0) h rfl (AI rfl (K0 (AI TV ?_))))
  obtain ⟨q47_8,h,q⟩:=bE q
  refine OL (cA H98 (q47_4.1,q47_4.2,(0:Int),(0:Int),(0:Int),(List.length ((((((rd (Ty.z T7) t_L (((rd (Ty.z T7) t_L n).2).1)).2).2).2).2).2):Int)) h rfl (AI rfl (AI NH (R2 (AJ (AI TV (AI TV ?_)))))))
  obtain ⟨q47_9,h,q⟩:=bE q
  refine OL (cA H97 (q47_8.1,q47_8.2.1,q47_8.2.2.1,q47_8.2.2.2.1,q47_8.2.2.2.2) h rfl (AI NH (R2 (AJ (AI TV (OL (EI (tU 0 3 (.take 4 (.alt 3 (.alt 5 (.alt 6 (.take 7 .done) .done) .done) .done))) (EI [] (EI [] (AI rfl (AI TV ?_)))))))))))
  obtain ⟨q48_3,h,q⟩:=bE q
  refine OL (cA H129 ((((((rd (Ty.z T7) t_L (((rd (Ty.z T7) t_L n).2).1)).2).2).2).2).1,q47_9) h rfl (R2 (K0 (AI TV (OL (AI TV (OL ?_)))))))
  cases sE q
  refine AI rfl (E4 (iuR [1,2,10,11,0,0]) (R2 (AI (R2 TV) (R6 TV))))
 refine OL (cI q (fun q=>?_) (fun q=>?_))
 ·exact nomatch q
 refine OL (cI q (fun q=>?_) (fun q=>?_))
 ·exact nomatch q
 refine OL (cI q (fun q=>?_) (fun q=>?_))
 ·exact nomatch q
 exact nomatch q
theorem H130:HI C130 130:=hI Tryz.f130 rfl fun x=>V130 x.1 x.2.1 x.2.2
def f91_j1 (t_L:NL) (root:Int):Option (Sum Unit Unit):=
 bif (decide (root<0)) then
 some (Sum.inr ())
 else
 bif (decide (root≥t_L.length)) then
 none
 else
 some (Sum.inl ())
def f91_l2 (t_L:NL) (root:Int) (go:(Int×LTz3×Bl)→Option (LTz3×Bl)) (i:Int) (l2:LTz3) (i2:Int) (l4 l5:LI):Option (LTz3×Bl):=
 bif (decide (i≤root)) then
 Ad (0≤i∧i<t_L.length)<|
 Ac (f129 ((((((rd (Ty.z T7) t_L i).2).2).2).2).1) (0:Int)) fun r6=>
 Ad (0≤i∧i<l2.length)<|
 go ((i64.wrap (i+1)),(List.set l2 (Int.toNat i2) (l4,l5)),i,r6.1,r6.2)
 else
 some (l2,i2,l4,l5)
def f91_j6 (i:Int) (l3:List Bool) (l1:NL):Option (Sum Unit Unit):=
 Ad (0≤i∧i<l3.length)<|
 bif (!(rd false l3 i)) then
 some (Sum.inr ())
 else
 bif (((rd (Ty.z T7) l1 i).1)==1) then
 some (Sum.inr ())
 else
 some (Sum.inl ())
def f91_l5 (go:(Int×LTz3×(List Bool)×NL)→Option (LTz3×NL)) (i:Int) (l2:LTz3) (l3:List Bool) (l1:NL):Option (LTz3×NL):=
 bif (decide (i≥0)) then
 Ad (0≤i∧i<l1.length)<|
 Ac (f91_j6 i l3 l1) fun z11=>
 Ak z11 (fun z11a=>
 Ad (0≤i∧i<l2.length)<|
 Ac (f130 l1 i ((rd (Ty.z T8) l2 i).1,(rd (Ty.z T8) l2 i).2)) fun q22_14=>
 Ad (0≤((rd (Ty.z T7) l1 i).2).1∧((rd (Ty.z T7) l1 i).2).1<l2.length)<|
 Ac (f131 (0:Int) ((rd (Ty.z T8) l2 (((rd (Ty.z T7) l1 i).2).1)).1,(rd (Ty.z T8) l2 (((rd (Ty.z T7) l1 i).2).1)).2) (q22_14.1,q22_14.2.1)) fun q19_9=>
 Ad (0≤((rd (Ty.z T7) l1 i).2).1∧((rd (Ty.z T7) l1 i).2).1<l2.length)<|
 Ad (0≤((rd (Ty.z T7) l1 i).2).1∧((rd (Ty.z T7) l1 i).2).1<l3.length)<|
 bif (decide (((((rd (Ty.z T7) l1 i).2).2).1)≥0)) then
 Ad (0≤(((rd (Ty.z T7) l1 i).2).2).1∧(((rd (Ty.z T7) l1 i).2).2).1<(List.length (List.set l2 (Int.toNat (((rd (Ty.z T7) l1 i).2).1)) (q19_9.2.1,q19_9.2.2)):Int))<|
 Ac (f131 (0:Int) ((rd (Ty.z T8) (List.set l2 (Int.toNat (((rd (Ty.z T7) l1 i).2).1)) (q19_9.2.1,q19_9.2.2)) ((((rd (Ty.z T7) l1 i).2).2).1)).1,(rd (Ty.z T8) (List.set l2 (Int.toNat (((rd (Ty.z T7) l1 i).2).1)) (q19_9.2.1,q19_9.2.2)) ((((rd (Ty.z T7) l1 i).2).2).1)).2) (q22_14.2.2.1,q22_14.2.2.2.1)) fun q22_9=>
 Ad (0≤(((rd (Ty.z T7) l1 i).2).2).1∧(((rd (Ty.z T7) l1 i).2).2).1<(List.length (List.set l2 (Int.toNat (((rd (Ty.z T7) l1 i).2).1)) (q19_9.2.1,q19_9.2.2)):Int))<|
 Ad (0≤(((rd (Ty.z T7) l1 i).2).2).1∧(((rd (Ty.z T7) l1 i).2).2).1<(List.length (List.set l3 (Int.toNat (((rd (Ty.z T7) l1 i).2).1)) true):Int))<|
 go ((i64.wrap (i-1)),(List.set (List.set l2 (Int.toNat (((rd (Ty.z T7) l1 i).2).1)) (q19_9.2.1,q19_9.2.2)) (Int.toNat ((((rd (Ty.z T7) l1 i).2).2).1)) (q22_9.2.1,q22_9.2.2)),(List.set (List.set l3 (Int.toNat (((rd (Ty.z T7) l1 i).2).1)) true) (Int.toNat ((((rd (Ty.z T7) l1 i).2).2).1)) true),q22_14.2.2.2.2)
 else
 go ((i64.wrap (i-1)),(List.set l2 (Int.toNat (((rd (Ty.z T7) l1 i).2).1)) (q19_9.2.1,q19_9.2.2)),(List.set l3 (Int.toNat (((rd (Ty.z T7) l1 i).2).1)) true),q22_14.2.2.2.2)) (fun z11b=>
 go ((i64.wrap (i-1)),l2,l3,l1))
 else
 some (l2,l1)
def f91 (t_L:NL) (root:Int):Option (Int×LTz3×NL):=
 Ac (f91_j1 t_L root) fun z1=>
 Ak z1 (fun z1a=>
 Ad (0≤root∧root<t_L.length)<|
 bif ((List.length ((((((rd (Ty.z T7) t_L root).2).2).2).2).2):Int) != 1) then
 none
 else
 Ad (0≤(i64.wrap (root+1))∧(i64.wrap (root+1))≤(i64.wrap (root+1))∧Int.toNat (i64.wrap (root+1))*48≤140737488355328)<|
 Ad (0≤(i64.wrap (root+1))∧(i64.wrap (root+1))≤(i64.wrap (root+1))∧Int.toNat (i64.wrap (root+1))*1≤140737488355328)<|
 Ac (Ag (fun go x=>f91_l2 t_L root go x.1 x.2.1 x.2.2.1 x.2.2.2.1 x.2.2.2.2) Ah ((0:Int),(List.replicate (Int.toNat (i64.wrap (root+1))) (Ty.z T8)),(List.length (List.replicate (Int.toNat (i64.wrap (root+1))) (Ty.z T8)):Int),[],[])) fun z5=>
 Ad (0≤root∧root<z5.1.length)<|
 Ad (root=z5.2.1)<|
 Ad (0≤(0:Int)∧0<(z5.2.2.2.length:Int))<|
 Ad (0≤root∧root<(List.length (List.replicate (Int.toNat (i64.wrap (root+1))) false):Int))<|
 Ac (Ag (fun go x=>f91_l5 go x.1 x.2.1 x.2.2.1 x.2.2.2) Ah (root,(List.set z5.1 (Int.toNat z5.2.1) (z5.2.2.1,(List.set z5.2.2.2 (Int.toNat (0:Int)) (4294967296:Int)))),(List.set (List.replicate (Int.toNat (i64.wrap (root+1))) false) (Int.toNat root) true),t_L)) fun z10=>
 some ((0:Int),z10.1,z10.2)) (fun z1b=>
 some ((1:Int),[],t_L))
def C91:Con:=⟨NL×Int,Int×LTz3×NL,2,fun x=>[P0 0 0,.dat T0 x.2],fun x=>[(0,.cells [(.osl 1)]),(1,.arr 176 T7 x.1)],fun x=>f91 x.1 x.2,fun y=>[O0 2,.dat T0 y.1],fun y=>[(0,.cells [(.osl 1)]),(1,.arr 176 T7 y.2.2),(2,.arr 112 T8 y.2.1)],3⟩
theorem V91 t_L root y (q:f91 t_L root=some y):VE Tryz.f91 2 C91 (t_L,root) y:=by
 unfold f91 at q
 refine OL ?_
 obtain ⟨z1,hz1,q⟩:=bE q
 let h0:LH:=fun zz=>(0,.cells [(.osl 1)])::zz
 let h1:LH:=fun zz=>h0 ((1,.arr 176 T7 t_L)::zz)
 refine OQ ⟨Sum.elim (fun z1a=>[(0,⟨[(0,P0 0 0),(1,.dat T0 root)],h1 [],2⟩)]) (fun z1b=>[(1,⟨[(4,.raw false [N0]),(5,D0 1)],h1 [],2⟩)]) z1,?_,?_⟩
 ·have q:=hz1
  clear hz1
  unfold f91_j1 at q
  refine OL (cN q (fun q=>?_) (fun q=>?_))
  ·refine gY (gY (gY (gY (gY (gY (cF (cI q (fun q=>?_) (fun q=>?_))))))))
   ·exact nomatch q
   cases sE q
   refine E4 I2 (R2 (AJ (R2 TV)))
  refine gN (gN (gN (gN (gN (gN (cT (cT (OL ?_))))))))
  cases sE q
  refine E4 I2 (R2 (AJ (R2 TV)))
 rcases z1 with z1a | z1b
 ·dsimp only [Ak] at q
  refine AI (OL (OL (gI q (fun q=>?_)))) TV
  refine cI q (fun q=>?_) (fun q=>?_)
  ·exact nomatch q
  refine OL (gI q (fun q=>?_))
  refine OL (gI q (fun q=>?_))
  refine OL (OL ?_)
  obtain ⟨z5,h,q⟩:=bE q
  refine lJ h (fun x=>⟨[(0,P0 0 0),(1,.dat T0 root),(6,O0 2),(7,O0 3),(8,.dat T0 x.1)],h1 [(2,.hol 112 T8 x.2.1 x.2.2.1 [(.osl 4),(.osl 5)]),(3,.arr 4 .bool (List.replicate (Int.toNat (i64.wrap (root+1))) false)),(4,.arr 3 T0 x.2.2.2.1),(5,.arr 26 T0 x.2.2.2.2)],6⟩) (fun z=>[(2,⟨[(0,P0 0 0),(1,.dat T0 root),(6,O0 2),(7,O0 3)],h1 [(2,.hol 112 T8 z.1 z.2.1 [(.osl 4),(.osl 5)]),(3,.arr 4 .bool (List.replicate (Int.toNat (i64.wrap (root+1))) false)),(4,.arr 3 T0 z.2.2.1),(5,.arr 26 T0 z.2.2.2)],6⟩)]) (EI [] (EI [(2,(List.length (List.replicate (Int.toNat (i64.wrap (root+1))) (Ty.z T8)):Int),[N0,N0])] (AI (Nat.le_refl _) (EI [] (EI [] (EI (iuR [1,2,3,4,0,0]) (R3 (AI (R3 TV) (R6 TV))))))))) (fun m=>An (fun i=>An (fun l2=>An (fun i2=>An (fun l4=>fun l5 z q=>?_))))) ?_
  ·have q:f91_l2 t_L root _ i l2 i2 l4 l5=some z:=q
   unfold f91_l2 at q
   refine OL (OL (cI q (fun q=>?_) (fun q=>?_)))
   ·refine OL (gI q (fun q=>?_))
    obtain ⟨r6,h,q⟩:=bE q
    refine OL (cA H129 ((((((rd (Ty.z T7) t_L i).2).2).2).2).1,(0:Int)) h rfl (R2 (K0 (gI q (fun q=>?_)))))
    refine OQ (AI rfl (EI ((i64.wrap (i+1)),(List.set l2 (Int.toNat i2) (l4,l5)),i,r6.1,r6.2) (AI q (E4 (iuR [1,2,3,4,7,8]) (R3 (AI (R3 TV) (R6 TV)))))))
   cases sE q
   refine E4 I6 (R2 (AI (R3 TV) (R6 TV)))
  refine AI (OL (gI q (fun q=>?_))) TV
  refine gI q (fun q=>?_)
  refine gI q (fun q=>?_)
  refine OL (OL (gI q (fun q=>?_)))
  refine OL (OL (OL ?_))
  obtain ⟨z10,h,q⟩:=bE q
  refine lJ h (fun x=>⟨[(0,P0 0 0),(6,O0 2),(7,O0 3),(9,.dat T0 x.1)],h0 [(1,.arr 176 T7 x.2.2.2),(2,.arr 112 T8 x.2.1),(3,.arr 4 .bool x.2.2.1)],4⟩) (fun z=>[(4,⟨[(6,O0 2)],h0 [(1,.arr 176 T7 z.2),(2,.arr 112 T8 z.1)],3⟩)]) (EI [2] (AI rfl (EI [] (EI [] (EI [] (EI I4 (R2 (AI (R3 TV) (R4 TV))))))))) (fun m=>An (fun i=>An (fun l2=>An (fun l3=>fun l1 z q=>?_)))) ?_
  ·have q:f91_l5 _ i l2 l3 l1=some z:=q
   unfold f91_l5 at q
   refine OL (OL (cI q (fun q=>?_) (fun q=>?_)))
   ·refine OL (OL (gI q (fun q=>?_)))
    refine OL ?_
    obtain ⟨z11,hz11,q⟩:=bE q
    let h2:LH:=fun zz=>h0 ((1,.arr 176 T7 l1)::(2,.arr 112 T8 l2)::(3,.arr 4 .bool l3)::zz)
    refine OQ ⟨Sum.elim (fun z11a=>[(0,⟨[(0,P0 0 0),(6,O0 2),(7,O0 3),(9,.dat T0 i),(10,P0 4 0)],h2 [(4,.cells [(.d T0 ((rd (Ty.z T7) l1 i).1)),(.d T0 (((rd (Ty.z T7) l1 i).2).1)),(.d T0 ((((rd (Ty.z T7) l1 i).2).2).1)),(.d T0 (((((rd (Ty.z T7) l1 i).2).2).2).1)),(.d T5 ((((((rd (Ty.z T7) l1 i).2).2).2).2).1)),(.d T5 ((((((rd (Ty.z T7) l1 i).2).2).2).2).2))])],5⟩)]) (fun z11b=>[(5,⟨[(0,P0 0 0),(6,O0 2),(7,O0 3),(9,.dat T0 i)],h2 [],4⟩)]) z11,?_,?_⟩
    ·have q:=hz11
     clear hz11
     unfold f91_j6 at q
     refine OL (gI q (fun q=>?_))
     refine cN q (fun q=>?_) (fun q=>?_)
     ·refine gY (gY (cF (cI q (fun q=>?_) (fun q=>?_))))
      ·cases sE q
       refine E4 I4 (R2 (AI (R3 TV) (R4 TV)))
      cases sE q
      refine E4 I5 (R2 (AI (R4 TV) (R5 TV)))
     refine gN (gN (cT (cT ?_)))
     cases sE q
     refine E4 I4 (R2 (AI (R3 TV) (R4 TV)))
    rcases z11 with z11a | z11b
    ·dsimp only [Ak] at q
     refine AI (OL (gI q (fun q=>?_))) TV
     obtain ⟨q22_14,h,q⟩:=bE q
     refine OL (cB H130 (l1,i,((rd (Ty.z T8) l2 i).1,(rd (Ty.z T8) l2 i).2)) I2 false h rfl (R3 (AI NH (R2 (AJ (AI (R2 TV) (OL (OL (OL (EI (tU 0 9 (.alt 9 (tU 10 4 (.alt 14 .done .done)) .done)) (EI [(14,[2])] (EI [] (AI rfl (gI q (fun q=>?_)))))))))))))))
     refine AI TV ?_
     obtain ⟨q19_9,h,q⟩:=bE q
     refine OL (cD H131 ((0:Int),((rd (Ty.z T8) l2 (((rd (Ty.z T7) l1 i).2).1)).1,(rd (Ty.z T8) l2 (((rd (Ty.z T7) l1 i).2).1)).2),(q22_14.1,q22_14.2.1)) h rfl (R5 (AI (fun _=>rfl) (R2 (AI TV (AI TV (gI q (fun q=>?_))))))))
     refine AI TV (OL (OL (gI q (fun q=>?_))))
     refine OL (OL (cI q (fun q=>?_) (fun q=>?_)))
     ·refine OL (EI (tU 0 9 (.alt 9 (tU 10 4 (.alt 14 .done .done)) .done)) (EI [(14,[2])] (EI [] (AI rfl (gI q (fun q=>?_))))))
      refine AI TV ?_
      obtain ⟨q22_9,h,q⟩:=bE q
      refine OL (cD H131 ((0:Int),((rd (Ty.z T8) (List.set l2 (Int.toNat (((rd (Ty.z T7) l1 i).2).1)) (q19_9.2.1,q19_9.2.2)) ((((rd (Ty.z T7) l1 i).2).2).1)).1,(rd (Ty.z T8) (List.set l2 (Int.toNat (((rd (Ty.z T7) l1 i).2).1)) (q19_9.2.1,q19_9.2.2)) ((((rd (Ty.z T7) l1 i).2).2).1)).2),(q22_14.2.2.1,q22_14.2.2.2.1)) h rfl (R5 (AI (fun _=>rfl) (R2 (AI TV (AI TV (gI q (fun q=>?_))))))))
      refine AI TV (OL (gI q (fun q=>?_)))
      refine OL (EI ((i64.wrap (i-1)),(List.set (List.set l2 (Int.toNat (((rd (Ty.z T7) l1 i).2).1)) (q19_9.2.1,q19_9.2.2)) (Int.toNat ((((rd (Ty.z T7) l1 i).2).2).1)) (q22_9.2.1,q22_9.2.2)),(List.set (List.set l3 (Int.toNat (((rd (Ty.z T7) l1 i).2).1)) true) (Int.toNat ((((rd (Ty.z T7) l1 i).2).2).1)) true),q22_14.2.2.2.2) (AI q (E4 I4 (R2 (AI (R3 TV) (R4 TV))))))
     refine EI ((i64.wrap (i-1)),(List.set l2 (Int.toNat (((rd (Ty.z T7) l1 i).2).1)) (q19_9.2.1,q19_9.2.2)),(List.set l3 (Int.toNat (((rd (Ty.z T7) l1 i).2).1)) true),q22_14.2.2.2.2) (AI q (E4 I4 (R2 (AI (R3 TV) (R4 TV)))))
    dsimp only [Ak] at q
    refine AI (EI ((i64.wrap (i-1)),l2,l3,l1) (AI q (E4 I4 (R2 (AI (R3 TV) (R4 TV)))))) TV
   cases sE q
   refine E4 I3 (AI rfl (AJ (R3 TV)))
  refine AI (OL ?_) TV
  cases sE q
  refine AI rfl (E4 I3 (R2 (AJ (R3 TV))))
 dsimp only [Ak] at q
 refine AI ?_ TV
 cases sE q
 refine AI rfl (E4 (iuR [1,2,0]) (R2 (AJ (R3 TV))))
theorem H91:HI C91 91:=hI Tryz.f91 rfl fun x=>V91 x.1 x.2
def f55_j3 (kind:Int):Option Bool:=
 bif (decide (kind<1)) then
 some true
 else
 some (decide (kind>3))
def f55_j2 (kind:Int):Option (Sum Unit Unit):=
 Ac (f55_j3 kind) fun z3=>
 bif z3 then
 none
 else
 some (Sum.inl ())
def f55_l4 (q18_14:PTz21) (r5:Int×LTz3×NL) (go:Bc→Option LI) (i:Int) (l3:LI):Option LI:=
 bif (decide (i<q18_14.2.2.1.length)) then
 Ad (0≤i∧i<q18_14.2.2.1.length)<|
 Ad (0≤(rd 0 q18_14.2.2.1 i)∧(rd 0 q18_14.2.2.1 i)<r5.2.1.length)<|
 Ad ((l3.length+List.length ((rd (Ty.z T8) r5.2.1 (rd 0 q18_14.2.2.1 i)).2))*8≤140737488355328)<|
 go ((i64.wrap (i+1)),(l3++((rd (Ty.z T8) r5.2.1 (rd 0 q18_14.2.2.1 i)).2)))
 else
 some l3
def f55 (n:Az) (kind:Int) (p_:LI) (x_:LI×LI×Int):Option (Int×Bc):=
 Ac (f55_j2 kind) fun z2=>
 Ak z2 (fun z2a=>
 Ac (f89 ([]) (n.1,n.2) p_ x_.1) fun q18_14=>
 bif (q18_14.2.1 != 0) then
 none
 else
 Ac (f90 q18_14.2.2.2 kind q18_14.1 x_.2.1 x_.2.2) fun r4=>
 bif (r4.2.1 != 0) then
 none
 else
 Ac (f91 r4.2.2 r4.1) fun r5=>
 bif (r5.1 != 0) then
 none
 else
 Ac (Ag (fun go x=>f55_l4 q18_14 r5 go x.1 x.2) Ah ((0:Int),[])) fun z6=>
 Ad (0≤r4.1∧r4.1<r5.2.2.length)<|
 Ad (0≤(0:Int)∧(0:Int)<(List.length ((((((rd (Ty.z T7) r5.2.2 r4.1).2).2).2).2).2):Int))<|
 some ((rd 0 ((((((rd (Ty.z T7) r5.2.2 r4.1).2).2).2).2).2) (0:Int)),(0:Int),z6)) (fun z2b=>
 some ((0:Int),(1:Int),[]))
def C55:Con:=⟨Az×Int×LI×(LI×LI×Int),Int×Bc,0,fun x=>[.dat T3 x.1,.dat T0 x.2.1,.dat T5 x.2.2.1,.dat T2 x.2.2.2],NX,fun x=>f55 x.1 x.2.1 x.2.2.1 x.2.2.2,fun y=>[O0 0,.dat T0 y.1,.dat T0 y.2.1],fun y=>[(0,.arr 26 T0 y.2.2)],1⟩
theorem V55 n kind p_ x_ y (q:f55 n kind p_ x_=some y):VC Tryz.f55 C55 (n,kind,p_,x_) y:=by
 unfold f55 at q
 refine OL ?_
 obtain ⟨z2,hz2,q⟩:=bE q
 let h0:LH:=fun zz=>(0,.cells [(.d T5 n.1),(.d T4 n.2)])::(1,.cells [(.d T5 x_.1),(.d T5 x_.2.1),(.d T0 x_.2.2)])::zz
 refine OQ ⟨Sum.elim (fun z2a=>[(0,⟨[(1,.dat T0 kind),(2,.dat T5 p_),(4,P0 0 0),(7,P0 1 0)],h0 [],2⟩)]) (fun z2b=>[(1,⟨[(8,.raw false [N0]),(9,D0 0),(10,D0 1)],[],0⟩)]) z2,?_,?_⟩
 ·have q:=hz2
  clear hz2
  unfold f55_j2 at q
  obtain ⟨z3,hz3,q⟩:=bE q
  refine OQ ⟨[(0,⟨[(1,.dat T0 kind),(2,.dat T5 p_),(4,P0 0 0),(7,P0 1 0),(24,.dat .bool z3)],h0 [],2⟩)],?_,?_⟩
  ·have q:=hz3
   clear hz3
   unfold f55_j3 at q
   refine cN q (fun q=>?_) (fun q=>?_)
   ·refine gY (cF ?_)
    cases sE q
    refine E4 I2 (R4 (AI (R2 TV) (R2 TV)))
   refine gN (cT ?_)
   cases sE q
   refine E4 I2 (R4 (AI (R2 TV) (R2 TV)))
  refine AI (cI q (fun q=>?_) (fun q=>?_)) TV
  ·exact nomatch q
  cases sE q
  refine E4 I2 (R3 (AI (R2 TV) (R2 TV)))
 rcases z2 with z2a | z2b
 ·dsimp only [Ak] at q
  refine AI (OL (OL ?_)) TV
  obtain ⟨q18_14,h,q⟩:=bE q
  refine OL (AI H89.1 (callVn [(2,0,176,T7)] (virtI rfl rfl (virt0 (cQ C89 ([],(n.1,n.2),p_,x_.1) q18_14 (iuR [3,4]) false H89.2 h rfl rfl (R4 (AI NH (R2 (AJ (AI (R2 TV) (OL (OL (cI q (fun q=>?_) (fun q=>?_))))))))))))))
  ·exact nomatch q
  refine OL ?_
  obtain ⟨r4,h,q⟩:=bE q
  refine OL (cB H90 (q18_14.2.2.2,kind,q18_14.1,x_.2.1,x_.2.2) (iuR [3,8]) false h rfl (R4 (AI NH (R2 (AJ (AI (R2 TV) (OL (OL (cI q (fun q=>?_) (fun q=>?_))))))))))
  ·exact nomatch q
  refine OL ?_
  obtain ⟨r5,h,q⟩:=bE q
  refine OL (cB H91 (r4.2.2,r4.1) (iuR [3,11]) false h rfl (AI rfl (AI NH (R2 (AJ (AI (R2 TV) (OL (OL (cI q (fun q=>?_) (fun q=>?_))))))))))
  ·exact nomatch q
  refine OL (OL (OL ?_))
  obtain ⟨z6,h,q⟩:=bE q
  refine lJ h (fun x=>⟨[(11,P0 0 0),(13,O0 1),(15,.dat T0 r4.1),(16,O0 2),(17,O0 3),(18,.dat T0 x.1)],[(0,.cells [(.osl 4)]),(1,.arr 3 T0 q18_14.2.2.1),(2,.arr 112 T8 r5.2.1),(3,.arr 26 T0 x.2),(4,.arr 176 T7 r5.2.2)],5⟩) (fun z=>[(2,⟨[(11,P0 0 0),(15,.dat T0 r4.1),(17,O0 1)],[(0,.cells [(.osl 2)]),(1,.arr 26 T0 z),(2,.arr 176 T7 r5.2.2)],3⟩)]) (E4 (iuR [3,7,14,0,11]) (R3 (AI (R4 TV) (R5 TV)))) (fun m=>An (fun i=>fun l3 z q=>?_)) ?_
  ·have q:f55_l4 q18_14 r5 _ i l3=some z:=q
   unfold f55_l4 at q
   refine OL (OL (cI q (fun q=>?_) (fun q=>?_)))
   ·refine OL (gI q (fun q=>?_))
    refine gI q (fun q=>?_)
    refine OL (gI q (fun q=>?_))
    refine EI ((i64.wrap (i+1)),(l3++((rd (Ty.z T8) r5.2.1 (rd 0 q18_14.2.2.1 i)).2))) (AI q (E4 (iuR [1,2,3,6,5]) (R3 (AI (R4 TV) (R5 TV)))))
   cases sE q
   refine E4 (iuR [1,4,5]) (R2 (AI (R2 TV) (R3 TV)))
  refine AI (OL (EI (tU 0 15 .done) (EI [] (EI [] (AI rfl (gI q (fun q=>?_))))))) TV
  refine gI q (fun q=>?_)
  cases sE q
  refine AI rfl (E4 (iuR [2]) (R3 (AJ (AI rfl TV))))
 dsimp only [Ak] at q
 refine AI ?_ TV
 cases sE q
 refine AI rfl (E4 (iuR [0]) (R3 (AJ (AI rfl TV))))
theorem H55:HI C55 55:=hI Tryz.f55 rfl fun x=>V55 x.1 x.2.1 x.2.2.1 x.2.2.2
def f57_j1 (a_Neg:Bool) (a_M_0 a_M_1:Int):Option Ax:=
 bif a_Neg then
 bif ((u64.wrap ((Af IntKind.u64 (fun p q=>p ^^^ q) (if (IntKind.signed IntKind.u64) then -1 else IntKind.max IntKind.u64) a_M_0)+1))==0) then
 some ((u64.wrap ((Af IntKind.u64 (fun p q=>p ^^^ q) (if (IntKind.signed IntKind.u64) then -1 else IntKind.max IntKind.u64) a_M_0)+1)),(u64.wrap ((Af IntKind.u64 (fun p q=>p ^^^ q) (if (IntKind.signed IntKind.u64) then -1 else IntKind.max IntKind.u64) a_M_1)+1)))
 else
 some ((u64.wrap ((Af IntKind.u64 (fun p q=>p ^^^ q) (if (IntKind.signed IntKind.u64) then -1 else IntKind.max IntKind.u64) a_M_0)+1)),(Af IntKind.u64 (fun p q=>p ^^^ q) (if (IntKind.signed IntKind.u64) then -1 else IntKind.max IntKind.u64) a_M_1))
 else
 some (a_M_0,a_M_1)
def f57 (a_Neg:Bool) (a_M_0 a_M_1 a_M_2 a_M_3:Int):Option Ax:=
 Ac (f57_j1 a_Neg a_M_0 a_M_1) fun z1=>
 some ((i64.wrap z1.2),z1.1)
def C57:Con:=⟨D4,Ax,0,fun x=>[.raw true [(.d .bool x.1),(.d T9 x.2.1),(.d T9 x.2.2.1),(.d T9 x.2.2.2.1),(.d T9 x.2.2.2.2)]],NX,fun x=>f57 x.1 x.2.1 x.2.2.1 x.2.2.2.1 x.2.2.2.2,fun y=>[.raw true [(.d T0 y.1),(.d T9 y.2)]],NX,0⟩
theorem V57 a_Neg a_M_0 a_M_1 a_M_2 a_M_3 y (q:f57 a_Neg a_M_0 a_M_1 a_M_2 a_M_3=some y):VC Tryz.f57 C57 (a_Neg,a_M_0,a_M_1,a_M_2,a_M_3) y:=by
 unfold f57 at q
 refine OL (OL (EI (tU 0 8 .done) (EI [] (EI [] (AI rfl (AI (by decide) (AI (fun _=>?_) (AI (fun h=>absurd h (by decide)) (AI (fun h=>absurd h (by decide)) (AI (fun h=>absurd h (by decide)) TV))))))))))
 refine AI (by decide) (AI (fun h=>absurd h (by decide)) ?_)
 refine AI (fun _=>?_) (AI (fun h=>absurd h (by decide)) (AI (fun h=>absurd h (by decide)) TV))
 obtain ⟨z1,hz1,q⟩:=bE q
 refine OQ ⟨[(0,⟨[(2,P0 0 0),(3,.dat T9 z1.1),(4,.dat T9 z1.2)],[(0,.cells [(.d T0 (0:Int)),(.d T9 (0:Int))])],1⟩)],?_,?_⟩
 ·have q:=hz1
  clear hz1
  unfold f57_j1 at q
  refine OL (cI q (fun q=>?_) (fun q=>?_))
  ·refine OL (OL (OL (cI q (fun q=>?_) (fun q=>?_))))
   ·cases sE q
    refine E4 (iuR [2]) (R3 (AJ (AI rfl TV)))
   cases sE q
   refine E4 (iuR [2]) (R3 (AJ (AI rfl TV)))
  cases sE q
  refine E4 (iuR [2]) (R3 (AJ (AI rfl TV)))
 refine AI (OL (OL ?_)) TV
 cases sE q
 refine AI rfl (E4 [] (AI rfl (AJ TV)))
theorem H57:HI C57 57:=hI Tryz.f57 rfl fun x=>V57 x.1 x.2.1 x.2.2.1 x.2.2.2.1 x.2.2.2.2
def f93_j1 (a:Ax):Option Int:=
 bif ((u64.wrap ((Af IntKind.u64 (fun p q=>p ^^^ q) (if (IntKind.signed IntKind.u64) then -1 else IntKind.max IntKind.u64) a.2)+1))==0) then
 some (u64.wrap ((Af IntKind.u64 (fun p q=>p ^^^ q) (if (IntKind.signed IntKind.u64) then -1 else IntKind.max IntKind.u64) (u64.wrap a.1))+1))
 else
 some (Af IntKind.u64 (fun p q=>p ^^^ q) (if (IntKind.signed IntKind.u64) then -1 else IntKind.max IntKind.u64) (u64.wrap a.1))
def f93 (a:Ax):Option (Bool×Ax):=
 bif (decide (a.1≥0)) then
 some (false,a.2,(u64.wrap a.1))
 else
 Ac (f93_j1 a) fun z1=>
 some (true,(u64.wrap ((Af IntKind.u64 (fun p q=>p ^^^ q) (if (IntKind.signed IntKind.u64) then -1 else IntKind.max IntKind.u64) a.2)+1)),z1)
def C93:Con:=⟨Ax,Bool×Ax,0,fun x=>[.dat T10 x],NX,fun x=>f93 x,fun y=>[.raw true [(.d .bool y.1),(.d T9 y.2.1),(.d T9 y.2.2),(.d T9 (0:Int)),(.d T9 (0:Int))]],NX,0⟩
theorem V93 a y (q:f93 a=some y):VC Tryz.f93 C93 a y:=by
 unfold f93 at q
 refine OL (OL (OL (cI q (fun q=>?_) (fun q=>?_))))
 ·refine OL (OL ?_)
  cases sE q
  refine AI rfl (E4 [] (AI rfl (AJ TV)))
 refine OL (EI (tU 0 10 .done) (EI [] (EI [] (AI rfl ?_))))
 obtain ⟨z1,hz1,q⟩:=bE q
 refine OQ ⟨[(0,⟨[(2,P0 0 0),(3,.dat T9 (u64.wrap ((Af IntKind.u64 (fun p q=>p ^^^ q) (if (IntKind.signed IntKind.u64) then -1 else IntKind.max IntKind.u64) a.2)+1))),(4,.dat T9 z1)],[(0,.cells [(.d .bool false),(.d T9 (0:Int)),(.d T9 (0:Int)),(.d T9 (0:Int)),(.d T9 (0:Int))])],1⟩)],?_,?_⟩
 ·have q:=hz1
  clear hz1
  unfold f93_j1 at q
  refine OL (cI q (fun q=>?_) (fun q=>?_))
  ·cases sE q
   refine E4 (iuR [2]) (R3 (AJ (AI rfl TV)))
  cases sE q
  refine E4 (iuR [2]) (R3 (AJ (AI rfl TV)))
 refine AI (OL (OL ?_)) TV
 cases sE q
 refine AI rfl (E4 [] (AI rfl (AJ TV)))
theorem H93:HI C93 93:=hI Tryz.f93 rfl fun x=>V93 x
def f56 (a b:Ax):Option Ax:=
 Ac (f93 (a.1,a.2)) fun q1_1=>
 Ac (f93 (b.1,b.2)) fun q1_3=>
 Ac (f92 q1_1.1 q1_1.2.1 q1_1.2.2 (0:Int) (0:Int) q1_3.1 q1_3.2.1 q1_3.2.2 (0:Int) (0:Int)) fun q1_4=>
 Ac (f57 q1_4.1 q1_4.2.1 q1_4.2.2.1 q1_4.2.2.2.1 q1_4.2.2.2.2) fun q1_5=>
 some (q1_5.1,q1_5.2)
def C56:Con:=⟨Ax×Ax,Ax,0,fun x=>[.dat T10 x.1,.dat T10 x.2],NX,fun x=>f56 x.1 x.2,fun y=>[.raw true [(.d T0 y.1),(.d T9 y.2)]],NX,0⟩
theorem V56 a b y (q:f56 a b=some y):VC Tryz.f56 C56 (a,b) y:=by
 unfold f56 at q
 refine OL (OL (EI (.take 0 (.take 2 (.alt 1 (.alt 3 (.alt 4 (.alt 5 (.alt 6 .done .done) .done) .done) .done) .done))) (EI [] (EI [] (AI rfl (AI TV ?_))))))
 obtain ⟨q1_1,h,q⟩:=bE q
 refine OL (cA H93 (a.1,a.2) h rfl (R2 (K0 (AI TV ?_))))
 obtain ⟨q1_3,h,q⟩:=bE q
 refine OL (cA H93 (b.1,b.2) h rfl (R2 (K0 (AI TV ?_))))
 obtain ⟨q1_4,h,q⟩:=bE q
 refine OL (cA H92 (q1_1.1,q1_1.2.1,q1_1.2.2,(0:Int),(0:Int),q1_3.1,q1_3.2.1,q1_3.2.2,(0:Int),(0:Int)) h rfl (AI NH (R2 (AI (R2 TV) (AI TV (AI TV ?_))))))
 obtain ⟨q1_5,h,q⟩:=bE q
 refine OL (cA H57 (q1_4.1,q1_4.2.1,q1_4.2.2.1,q1_4.2.2.2.1,q1_4.2.2.2.2) h rfl (AI NH (R2 (AJ (AI TV (AI TV (OL ?_)))))))
 cases sE q
 refine AI rfl (E4 [] (AI rfl (AJ TV)))
theorem H56:HI C56 56:=hI Tryz.f56 rfl fun x=>V56 x.1 x.2
def f38_l4 (q17_4:Int×PTz17) (q9_7:Int×Bc) (go:(Int×LTz2)→Option LTz2) (k:Int) (l2_2:LTz2):Option LTz2:=
 bif (decide (k<q17_4.1)) then
 Ad (0≤k∧k<l2_2.length)<|
 Ad (0≤k∧k<q9_7.2.2.length)<|
 Ac (f58 (rd 0 q9_7.2.2 k)) fun q15_10=>
 Ac (f57 q15_10.1 q15_10.2 (0:Int) (0:Int) (0:Int)) fun q15_11=>
 Ac (f56 ((rd (Ty.z T10) l2_2 k).1,(rd (Ty.z T10) l2_2 k).2) (q15_11.1,q15_11.2)) fun q15_12=>
 Ad (0≤k∧k<l2_2.length)<|
 go ((i64.wrap (k+1)),(List.set l2_2 (Int.toNat k) (q15_12.1,q15_12.2)))
 else
 some l2_2
def f38_l3 (n:Az) (kind:Int) (p_:LI) (l:D5) (q17_4:Int×PTz17) (go:(Int×LTz2×Ax)→Option (LTz2×Ax)) (i:Int) (l2:LTz2) (c3_0 c3_1:Int):Option (LTz2×Ax):=
 bif (decide (i<l.length)) then
 Ad (0≤i∧i<l.length)<|
 Ac (f55 (n.1,n.2) kind p_ ((rd (Ty.z T2) l i).1,((rd (Ty.z T2) l i).2).1,((rd (Ty.z T2) l i).2).2)) fun q9_7=>
 bif (q9_7.2.1 != 0) then
 none
 else
 Ac (Ag (fun go x=>f38_l4 q17_4 q9_7 go x.1 x.2) Ah ((0:Int),l2)) fun z4=>
 Ac (f58 q9_7.1) fun q16_2=>
 Ac (f57 q16_2.1 q16_2.2 (0:Int) (0:Int) (0:Int)) fun q16_3=>
 Ac (f56 (c3_0,c3_1) (q16_3.1,q16_3.2)) fun q16_4=>
 go ((i64.wrap (i+1)),z4,q16_4.1,q16_4.2)
 else
 some (l2,c3_0,c3_1)
def f38 (n:Az) (kind:Int) (p_:LI) (l:D5):Option (Int×Int×LTz2):=
 Ac (f54 (n.1,n.2)) fun q17_4=>
 bif (q17_4.2.1 != 0) then
 none
 else
 Ad (0≤q17_4.1∧q17_4.1≤q17_4.1∧Int.toNat q17_4.1*16≤140737488355328)<|
 Ac (Ag (fun go x=>f38_l3 n kind p_ l q17_4 go x.1 x.2.1 x.2.2.1 x.2.2.2) Ah ((0:Int),(List.replicate (Int.toNat q17_4.1) (Ty.z T10)),(0:Int),(0:Int))) fun z3=>
 some (z3.2.1,z3.2.2,z3.1)
def C38:Con:=⟨Az×Int×LI×D5,Int×Int×LTz2,0,fun x=>[.dat T3 x.1,.dat T0 x.2.1,.dat T5 x.2.2.1,.dat T12 x.2.2.2],NX,fun x=>f38 x.1 x.2.1 x.2.2.1 x.2.2.2,fun y=>[O0 0,.raw true [(.d T0 y.1),(.d T9 y.2.1)],D0 0],fun y=>[(0,.arr 67 T10 y.2.2)],1⟩
theorem V38 n kind p_ l y (q:f38 n kind p_ l=some y):VC Tryz.f38 C38 (n,kind,p_,l) y:=by
 unfold f38 at q
 refine OL (OL ?_)
 obtain ⟨q17_4,h,q⟩:=bE q
 refine OL (cA H54 (n.1,n.2) h rfl (R2 (K0 (OL (OL (cI q (fun q=>?_) (fun q=>?_)))))))
 ·exact nomatch q
 refine OL (gI q (fun q=>?_))
 refine OL (OL (OL (OL ?_)))
 obtain ⟨z3,hz3,q⟩:=bE q
 let e0:LE:=fun zz=>(1,.dat T0 kind)::(2,.dat T5 p_)::(3,.dat T12 l)::(4,P0 0 0)::(9,P0 1 0)::(12,.dat T0 q17_4.1)::(14,O0 2)::(15,P0 3 0)::zz
 let h1:LH:=fun zz=>(0,.cells [(.d T5 n.1),(.d T4 n.2)])::(1,.cells [(.d T0 (0:Int)),(.d T9 (0:Int))])::zz
 refine lJ hz3 (fun x=>⟨e0 [(16,.dat T0 x.1)],h1 [(2,.arr 67 T10 x.2.1),(3,.cells [(.d T0 x.2.2.1),(.d T9 x.2.2.2)])],4⟩) (fun z=>[(2,⟨[(9,P0 0 0),(14,O0 1),(15,P0 2 0)],[(0,.cells [(.d T0 (0:Int)),(.d T9 (0:Int))]),(1,.arr 67 T10 z.1),(2,.cells [(.d T0 z.2.1),(.d T9 z.2.2)])],3⟩)]) (E4 (iuR [1,2,4,5]) (R6 (AI (R4 TV) (R4 TV)))) (fun m=>An (fun i=>An (fun l2=>An (fun c3_0=>fun c3_1 z q=>?_)))) ?_
 ·have q:f38_l3 n kind p_ l q17_4 _ i l2 c3_0 c3_1=some z:=q
  unfold f38_l3 at q
  refine OL (OL (cI q (fun q=>?_) (fun q=>?_)))
  ·refine OL (OL (EI (tU 0 7 (.alt 7 (tU 8 7 .done) .done)) (EI [] (EI [] (AI rfl (gI q (fun q=>?_)))))))
   refine AI TV ?_
   obtain ⟨q9_7,h,q⟩:=bE q
   refine OL (cA H55 ((n.1,n.2),kind,p_,((rd (Ty.z T2) l i).1,((rd (Ty.z T2) l i).2).1,((rd (Ty.z T2) l i).2).2)) h rfl (R6 (K0 (OL (OL (cI q (fun q=>?_) (fun q=>?_)))))))
   ·exact nomatch q
   refine OL (OL ?_)
   obtain ⟨z4,h,q⟩:=bE q
   refine lJ h (fun x=>⟨e0 [(16,.dat T0 i),(17,O0 4),(18,.dat T0 q9_7.1),(20,.dat T0 x.1)],h1 [(2,.arr 67 T10 x.2),(3,.cells [(.d T0 c3_0),(.d T9 c3_1)]),(4,.arr 26 T0 q9_7.2.2)],5⟩) (fun z=>[(4,⟨e0 [(16,.dat T0 i),(18,.dat T0 q9_7.1)],h1 [(2,.arr 67 T10 z),(3,.cells [(.d T0 c3_0),(.d T9 c3_1)])],4⟩)]) (E4 I5 (R8 (AI (R5 TV) (R5 TV)))) (fun m=>An (fun k=>fun l2_2 z q=>?_)) ?_
   ·have q:f38_l4 q17_4 q9_7 _ k l2_2=some z:=q
    unfold f38_l4 at q
    refine OL (OL (cI q (fun q=>?_) (fun q=>?_)))
    ·refine OL (EI (tU 0 10 (.alt 10 (.alt 11 (.alt 12 (.take 13 (.alt 14 .done .done)) .done) .done) .done)) (EI [(14,[2])] (EI [] (AI rfl (gI q (fun q=>?_))))))
     refine gI q (fun q=>?_)
     refine AI TV ?_
     obtain ⟨q15_10,h,q⟩:=bE q
     refine OL (cA H58 (rd (0:Int) q9_7.2.2 k) h rfl (AI rfl (K0 (AI TV ?_))))
     obtain ⟨q15_11,h,q⟩:=bE q
     refine OL (cA H57 (q15_10.1,q15_10.2,(0:Int),(0:Int),(0:Int)) h rfl (AI NH (R2 (AJ (AI TV (AI TV ?_))))))
     obtain ⟨q15_12,h,q⟩:=bE q
     refine OL (cA H56 (((rd (Ty.z T10) l2_2 k).1,(rd (Ty.z T10) l2_2 k).2),(q15_11.1,q15_11.2)) h rfl (R4 (K0 (gI q (fun q=>?_)))))
     refine AI TV (OL (EI ((i64.wrap (k+1)),(List.set l2_2 (Int.toNat k) (q15_12.1,q15_12.2))) (AI q (E4 I5 (R8 (AI (R5 TV) (R5 TV)))))))
    cases sE q
    refine E4 I4 (R7 (AI (R4 TV) (R4 TV)))
   refine AI (EI (.take 0 (.take 1 (.alt 2 (.alt 3 (.alt 4 (.alt 5 .done .done) .done) .done) .done))) (EI [(5,[3])] (EI [] (AI rfl (AI TV ?_))))) TV
   obtain ⟨q16_2,h,q⟩:=bE q
   refine OL (cA H58 q9_7.1 h rfl (AI rfl (K0 (AI TV ?_))))
   obtain ⟨q16_3,h,q⟩:=bE q
   refine OL (cA H57 (q16_2.1,q16_2.2,(0:Int),(0:Int),(0:Int)) h rfl (AI NH (R2 (AJ (AI TV (AI TV ?_))))))
   obtain ⟨q16_4,h,q⟩:=bE q
   refine OL (cA H56 ((c3_0,c3_1),(q16_3.1,q16_3.2)) h rfl (R4 (K0 (AI TV (OL (EI ((i64.wrap (i+1)),z4,q16_4.1,q16_4.2) (AI q (E4 I4 (R6 (AI (R4 TV) (R4 TV)))))))))))
  cases sE q
  refine E4 (iuR [2,3,4]) (AI rfl (AI (R3 TV) (R3 TV)))
 refine AI (OL (EI (tU 0 3 (.alt 3 (.take 4 .done) .done)) (EI [] (EI [] (AI rfl (AI TV (OL ?_))))))) TV
 cases sE q
 refine AI rfl (E4 (iuR [2]) (R2 (AI (R2 TV) (AI rfl TV))))
theorem H38:HI C38 38:=hI Tryz.f38 rfl fun x=>V38 x.1 x.2.1 x.2.2.1 x.2.2.2
def f96 (a_Neg:Bool) (a_M_0 a_M_1 a_M_2 a_M_3:Int):Option Bool:=
 some ((Af IntKind.u64 (fun p q=>p||| q) (Af IntKind.u64 (fun p q=>p||| q) (Af IntKind.u64 (fun p q=>p||| q) a_M_0 a_M_1) a_M_2) a_M_3)==0)
def C96:Con:=⟨D4,Bool,0,fun x=>[.raw true [(.d .bool x.1),(.d T9 x.2.1),(.d T9 x.2.2.1),(.d T9 x.2.2.2.1),(.d T9 x.2.2.2.2)]],NX,fun x=>f96 x.1 x.2.1 x.2.2.1 x.2.2.2.1 x.2.2.2.2,fun y=>[.dat .bool y],NX,0⟩
theorem V96 a_Neg a_M_0 a_M_1 a_M_2 a_M_3 y (q:f96 a_Neg a_M_0 a_M_1 a_M_2 a_M_3=some y):VC Tryz.f96 C96 (a_Neg,a_M_0,a_M_1,a_M_2,a_M_3) y:=by
 unfold f96 at q
 refine OL (OL (AI (by decide) (AI (fun _=>?_) (AI (fun h=>absurd h (by decide)) (AI (fun h=>absurd h (by decide)) (AI (fun h=>absurd h (by decide)) TV))))))
 refine AI (by decide) (AI (fun h=>absurd h (by decide)) ?_)
 refine AI (fun _=>?_) (AI (fun h=>absurd h (by decide)) (AI (fun h=>absurd h (by decide)) TV))
 refine AI (by decide) (AI (fun h=>absurd h (by decide)) ?_)
 refine AI (fun h=>absurd h (by decide)) ?_
 refine AI (fun _=>?_) (AI (fun h=>absurd h (by decide)) TV)
 refine AI (by decide) (AI (fun h=>absurd h (by decide)) ?_)
 refine AI (fun h=>absurd h (by decide)) ?_
 refine AI (fun h=>absurd h (by decide)) ?_
 refine AI (fun _=>?_) TV
 cases sE q
 refine AI rfl (E4 [] (R2 (AI TV TV)))
theorem H96:HI C96 96:=hI Tryz.f96 rfl fun x=>V96 x.1 x.2.1 x.2.2.1 x.2.2.2.1 x.2.2.2.2
def f95 (neg none_:Bool):Option Int:=
 bif none_ then
 some (0:Int)
 else
 bif neg then
 some (-9223372036854775808:Int)
 else
 some (9223372036854775807:Int)
def C95:Con:=⟨Bool×Bool,Int,0,fun x=>[.dat .bool x.1,.dat .bool x.2],NX,fun x=>f95 x.1 x.2,fun y=>[.dat T0 y],NX,0⟩
theorem V95 neg none_ y (q:f95 neg none_=some y):VC Tryz.f95 C95 (neg,none_) y:=by
 unfold f95 at q
 refine OL (OL (OL (cI q (fun q=>?_) (fun q=>?_))))
 ·cases sE q
  refine OL (AI rfl (E4 [] (R2 (AI TV TV))))
 refine OL (cI q (fun q=>?_) (fun q=>?_))
 ·cases sE q
  refine OL (AI rfl (E4 [] (R2 (AI TV TV))))
 cases sE q
 refine OL (AI rfl (E4 [] (R2 (AI TV TV))))
theorem H95:HI C95 95:=hI Tryz.f95 rfl fun x=>V95 x.1 x.2
def f59 (a:Ax) (n:Int):Option Int:=
 Ac (f93 (a.1,a.2)) fun r1=>
 bif (n==0) then
 Ac (f96 r1.1 r1.2.1 r1.2.2 (0:Int) (0:Int)) fun q3_3=>
 Ac (f95 r1.1 q3_3) fun q3_4=>
 some q3_4
 else
 Ac (f98 r1.1 r1.2.1 r1.2.2 (0:Int) (0:Int) n) fun q3_5=>
 Ac (f97 q3_5.1 q3_5.2.1 q3_5.2.2.1 q3_5.2.2.2.1 q3_5.2.2.2.2) fun r2=>
 some r2
def C59:Con:=⟨Ax×Int,Int,0,fun x=>[.dat T10 x.1,.dat T0 x.2],NX,fun x=>f59 x.1 x.2,fun y=>[.dat T0 y],NX,0⟩
theorem V59 a n y (q:f59 a n=some y):VC Tryz.f59 C59 (a,n) y:=by
 unfold f59 at q
 refine OL (OL ?_)
 obtain ⟨r1,h,q⟩:=bE q
 refine OL (cA H93 (a.1,a.2) h rfl (R2 (K0 (OL (OL (OL (cI q (fun q=>?_) (fun q=>?_))))))))
 ·refine OL (EI (tU 0 3 (.alt 3 (.alt 4 (.take 5 .done) .done) .done)) (EI [] (EI [] (AI rfl (AI TV ?_)))))
  obtain ⟨q3_3,h,q⟩:=bE q
  refine OL (cA H96 (r1.1,r1.2.1,r1.2.2,(0:Int),(0:Int)) h rfl (AI NH (R2 (AJ (AI TV (AI TV ?_))))))
  obtain ⟨q3_4,h,q⟩:=bE q
  refine OL (cA H95 (r1.1,q3_3) h rfl (R2 (K0 ?_)))
  cases sE q
  refine AI rfl (E4 [] (R2 (AI TV TV)))
 refine OL ?_
 obtain ⟨q3_5,h,q⟩:=bE q
 refine OL (cA H98 (r1.1,r1.2.1,r1.2.2,(0:Int),(0:Int),n) h rfl (AI rfl (AI NH (R2 (AJ (AI TV ?_))))))
 obtain ⟨r2,h,q⟩:=bE q
 refine OL (cA H97 (q3_5.1,q3_5.2.1,q3_5.2.2.1,q3_5.2.2.2.1,q3_5.2.2.2.2) h rfl (AI NH (R2 (AJ (AI TV ?_)))))
 cases sE q
 refine AI rfl (E4 [] (R2 (AI TV TV)))
theorem H59:HI C59 59:=hI Tryz.f59 rfl fun x=>V59 x.1 x.2
def f39_j3 (s:Al) (g:LTz2):Option Bool:=
 bif ((s.1.length:Int) != s.2.length) then
 some true
 else
 some ((s.1.length:Int) != g.length)
def f39_j2 (s:Al) (g:LTz2):Option Unit:=
 Ac (f39_j3 s g) fun z3=>
 bif z3 then
 none
 else
 some ()
def f39_j6 (Ar:Int) (r:Bw):Option Bool:=
 bif (decide (Ar<1)) then
 some true
 else
 some (decide (r.2.2<0))
def f39_j5 (Ar:Int) (r:Bw):Option Unit:=
 Ac (f39_j6 Ar r) fun z6=>
 bif z6 then
 none
 else
 some ()
def f39_j22 (r:Bw) (r22:Int):Option Bool:=
 bif (decide (r.2.2>0)) then
 some (decide (r22>r.2.2))
 else
 some false
def f39_j21 (r:Bw) (r22:Int):Option Unit:=
 Ac (f39_j22 r r22) fun z25=>
 bif z25 then
 none
 else
 some ()
def f39_j25 (r:Bw) (r22:Int):Option Bool:=
 bif (decide (r.2.2>0)) then
 some (decide (r22<(i64.wrap (0-r.2.2))))
 else
 some false
def f39_j24 (r:Bw) (r22:Int):Option Unit:=
 Ac (f39_j25 r r22) fun z28=>
 bif z28 then
 none
 else
 some ()
def f39_l19 (s:Al) (g:LTz2) (Ar:Int) (r:Bw) (go:Bl→Option Al) (i:Int) (l4 l5:LI):Option Al:=
 bif (decide (i<g.length)) then
 Ad (0≤i∧i<g.length)<|
 Ac (f59 ((rd (Ty.z T10) g i).1,(rd (Ty.z T10) g i).2) Ar) fun r22=>
 Ac (f39_j21 r r22) fun z24=>
 Ac (f39_j24 r r22) fun z27=>
 Ad (0≤i∧i<s.2.length)<|
 Ac (f61 r.2.1 (rd 0 s.2 i)) fun q14_7=>
 Ac (f60 q14_7 r22) fun q14_9=>
 Ad ((l5.length+List.length ([q14_9]))*8≤140737488355328)<|
 Ad (0≤i∧i<s.1.length)<|
 Ac (f61 r.1 q14_9) fun q16_10=>
 Ac (f62 (rd 0 s.1 i) q16_10) fun q16_11=>
 Ad ((l4.length+List.length ([q16_11]))*8≤140737488355328)<|
 go ((i64.wrap (i+1)),(l4++([q16_11])),(l5++([q14_9])))
 else
 some (l4,l5)
def f39 (s:Al) (g:LTz2) (Ar:Int) (r:Bw):Option Al:=
 Ac (f39_j2 s g) fun z2=>
 Ac (f39_j5 Ar r) fun z5=>
 Ac (Ag (fun go x=>f39_l19 s g Ar r go x.1 x.2.1 x.2.2) Ah ((0:Int),[],[])) fun z21=>
 some (z21.1,z21.2)
def C39:Con:=⟨Al×LTz2×Int×Bw,Al,0,fun x=>[.dat T8 x.1,.dat T13 x.2.1,.dat T0 x.2.2.1,.dat T14 x.2.2.2],NX,fun x=>f39 x.1 x.2.1 x.2.2.1 x.2.2.2,fun y=>[.raw true [(.osl 0),(.osl 1)],D0 0],fun y=>[(0,.arr 26 T0 y.1),(1,.arr 26 T0 y.2)],2⟩
theorem V39 s g Ar r y (q:f39 s g Ar r=some y):VC Tryz.f39 C39 (s,g,Ar,r) y:=by
 unfold f39 at q
 refine OL ?_
 obtain ⟨z2,hz2,q⟩:=bE q
 let e0:LE:=fun zz=>(1,.dat T13 g)::(2,.dat T0 Ar)::(4,P0 0 0)::(7,P0 1 0)::(8,P0 2 0)::zz
 let h1:LH:=fun zz=>(0,.cells [(.d T5 s.1),(.d T5 s.2)])::(1,.cells [(.d T0 r.1),(.d T0 r.2.1),(.d T0 r.2.2)])::(2,.cells [N0,N0])::zz
 refine OQ ⟨[(0,⟨e0 [],h1 [],3⟩)],?_,?_⟩
 ·have q:=hz2
  clear hz2
  unfold f39_j2 at q
  obtain ⟨z3,hz3,q⟩:=bE q
  refine OQ ⟨[(0,⟨e0 [(28,.dat .bool z3)],h1 [],3⟩)],?_,?_⟩
  ·have q:=hz3
   clear hz3
   unfold f39_j3 at q
   refine cN q (fun q=>?_) (fun q=>?_)
   ·refine gY (gY (gY (gY (gY (cF ?_)))))
    cases sE q
    refine E4 I3 (R4 (AI (R3 TV) (R3 TV)))
   refine gN (gN (gN (gN (gN (cT ?_)))))
   cases sE q
   refine E4 I3 (R4 (AI (R3 TV) (R3 TV)))
  refine AI (cI q (fun q=>?_) (fun q=>?_)) TV
  ·exact nomatch q
  cases sE q
  refine E4 I3 (R3 (AI (R3 TV) (R3 TV)))
 refine AI ?_ TV
 obtain ⟨z5,hz5,q⟩:=bE q
 refine OQ ⟨[(0,⟨e0 [],h1 [],3⟩)],?_,?_⟩
 ·have q:=hz5
  clear hz5
  unfold f39_j5 at q
  obtain ⟨z6,hz6,q⟩:=bE q
  refine OQ ⟨[(0,⟨e0 [(36,.dat .bool z6)],h1 [],3⟩)],?_,?_⟩
  ·have q:=hz6
   clear hz6
   unfold f39_j6 at q
   refine cN q (fun q=>?_) (fun q=>?_)
   ·refine gY (gY (cF ?_))
    cases sE q
    refine E4 I3 (R4 (AI (R3 TV) (R3 TV)))
   refine gN (gN (cT ?_))
   cases sE q
   refine E4 I3 (R4 (AI (R3 TV) (R3 TV)))
  refine AI (cI q (fun q=>?_) (fun q=>?_)) TV
  ·exact nomatch q
  cases sE q
  refine E4 I3 (R3 (AI (R3 TV) (R3 TV)))
 refine AI (OL (OL (OL (OL ?_)))) TV
 obtain ⟨z21,hz21,q⟩:=bE q
 let h2:LH:=fun zz=>h1 ((3,.cells [(.osl 4),(.osl 5)])::zz)
 refine lJ hz21 (fun x=>⟨e0 [(10,P0 3 0),(11,.dat T0 x.1)],h2 [(4,.arr 26 T0 x.2.1),(5,.arr 26 T0 x.2.2)],6⟩) (fun z=>[(2,⟨[(8,P0 0 0),(10,P0 1 0)],[(0,.cells [N0,N0]),(1,.cells [(.osl 2),(.osl 3)]),(2,.arr 26 T0 z.1),(3,.arr 26 T0 z.2)],4⟩)]) (E4 (iuR [1,2,3,4,0,0]) (R4 (AI (R4 TV) (R6 TV)))) (fun m=>An (fun i=>An (fun l4=>fun l5 z q=>?_))) ?_
 ·have q:f39_l19 s g Ar r _ i l4 l5=some z:=q
  unfold f39_l19 at q
  refine OL (OL (cI q (fun q=>?_) (fun q=>?_)))
  ·refine OL (OL (gI q (fun q=>?_)))
   obtain ⟨r22,h,q⟩:=bE q
   refine OL (cA H59 (((rd (Ty.z T10) g i).1,(rd (Ty.z T10) g i).2),Ar) h rfl (R3 (K0 ?_)))
   obtain ⟨z24,hz24,q⟩:=bE q
   let e3:LE:=fun zz=>e0 ((10,P0 3 0)::(11,.dat T0 i)::(12,.dat T0 r22)::zz)
   let h4:LH:=fun zz=>h2 ((4,.arr 26 T0 l4)::(5,.arr 26 T0 l5)::zz)
   refine OQ ⟨[(0,⟨e3 [],h4 [],6⟩)],?_,?_⟩
   ·have q:=hz24
    clear hz24
    unfold f39_j21 at q
    obtain ⟨z25,hz25,q⟩:=bE q
    refine OQ ⟨[(0,⟨e3 [(59,.dat .bool z25)],h4 [],6⟩)],?_,?_⟩
    ·have q:=hz25
     clear hz25
     unfold f39_j22 at q
     refine cI q (fun q=>?_) (fun q=>?_)
     ·refine gX (gX (gX (cT ?_)))
      cases sE q
      refine E4 I6 (R6 (AI (R4 TV) (R6 TV)))
     refine gM (gM (gM (cF ?_)))
     cases sE q
     refine E4 I6 (R6 (AI (R4 TV) (R6 TV)))
    refine AI (cI q (fun q=>?_) (fun q=>?_)) TV
    ·exact nomatch q
    cases sE q
    refine E4 I6 (R5 (AI (R4 TV) (R6 TV)))
   refine AI ?_ TV
   obtain ⟨z27,hz27,q⟩:=bE q
   refine OQ ⟨[(0,⟨e3 [],h4 [],6⟩)],?_,?_⟩
   ·have q:=hz27
    clear hz27
    unfold f39_j24 at q
    obtain ⟨z28,hz28,q⟩:=bE q
    refine OQ ⟨[(0,⟨e3 [(71,.dat .bool z28)],h4 [],6⟩)],?_,?_⟩
    ·have q:=hz28
     clear hz28
     unfold f39_j25 at q
     refine cI q (fun q=>?_) (fun q=>?_)
     ·refine gX (gX (gX (gX (cT ?_))))
      cases sE q
      refine E4 I6 (R6 (AI (R4 TV) (R6 TV)))
     refine gM (gM (gM (gM (cF ?_))))
     cases sE q
     refine E4 I6 (R6 (AI (R4 TV) (R6 TV)))
    refine AI (cI q (fun q=>?_) (fun q=>?_)) TV
    ·exact nomatch q
    cases sE q
    refine E4 I6 (R5 (AI (R4 TV) (R6 TV)))
   refine AI (OL (EI (tU 0 7 (.take 8 (.alt 7 (.alt 9 (.take 10 .done) .done) .done))) (EI [] (EI [] (AI rfl (gI q (fun q=>?_))))))) TV
   refine AI TV ?_
   obtain ⟨q14_7,h,q⟩:=bE q
   refine OL (cA H61 (r.2.1,(rd 0 s.2 i)) h rfl (R2 (K0 (AI TV ?_))))
   obtain ⟨q14_9,h,q⟩:=bE q
   refine OL (cA H60 (q14_7,r22) h rfl (R2 (K0 (OL (OL (OL (gI q (fun q=>?_))))))))
   refine OL (EI (tU 0 10 (.alt 10 (.alt 11 (.alt 12 (.alt 13 (.take 14 (.alt 15 .done .done)) .done) .done) .done) .done)) (EI [(15,[3])] (EI [] (AI rfl (gI q (fun q=>?_))))))
   refine AI TV ?_
   obtain ⟨q16_10,h,q⟩:=bE q
   refine OL (cA H61 (r.1,q14_9) h rfl (R2 (K0 (AI TV ?_))))
   obtain ⟨q16_11,h,q⟩:=bE q
   refine OL (cA H62 ((rd 0 s.1 i),q16_10) h rfl (R2 (K0 (AI TV (OL (AI TV (OL (gI q (fun q=>?_)))))))))
   refine AI TV (OL (EI ((i64.wrap (i+1)),(l4++([q16_11])),(l5++([q14_9]))) (AI q (E4 (iuR [1,2,3,4,10,8]) (R4 (AI (R4 TV) (R6 TV)))))))
  cases sE q
  refine E4 (iuR [3,4,5,6]) (AI rfl (AI (R2 TV) (R4 TV)))
 refine AI (OL (OL ?_)) TV
 cases sE q
 refine AI rfl (E4 (iuR [3,4]) (R2 (AJ (R2 TV))))
theorem H39:HI C39 39:=hI Tryz.f39 rfl fun x=>V39 x.1 x.2.1 x.2.2.1 x.2.2.2
def f26_l1 (j:PTz5) (r1:Bc) (go:(Int×D5)→Option D5) (i:Int) (l5:D5):Option D5:=
 bif (decide (i<r1.2.length)) then
 Ad (0≤i∧i<r1.2.length)<|
 Ad (0≤(rd 0 r1.2 i)∧(rd 0 r1.2 i)<j.2.2.2.2.1.length)<|
 Ad ((l5.length+List.length ([((rd (Ty.z T2) j.2.2.2.2.1 (rd 0 r1.2 i)).1,((rd (Ty.z T2) j.2.2.2.2.1 (rd 0 r1.2 i)).2).1,((rd (Ty.z T2) j.2.2.2.2.1 (rd 0 r1.2 i)).2).2)]))*56≤140737488355328)<|
 go ((i64.wrap (i+1)),(l5++([((rd (Ty.z T2) j.2.2.2.2.1 (rd 0 r1.2 i)).1,((rd (Ty.z T2) j.2.2.2.2.1 (rd 0 r1.2 i)).2).1,((rd (Ty.z T2) j.2.2.2.2.1 (rd 0 r1.2 i)).2).2)])))
 else
 some l5
def f26 (j:PTz5) (s:Al) (k:Int):Option (Int×Bl):=
 Ac (f37 (j.2.2.2.2.1.length:Int) j.2.2.1 k) fun r1=>
 Ac (Ag (fun go x=>f26_l1 j r1 go x.1 x.2) Ah ((0:Int),[])) fun z2=>
 Ac (f38 (j.1.1,j.1.2) j.2.1 s.1 z2) fun q6_11=>
 Ac (f39 (s.1,s.2) q6_11.2.2 (z2.length:Int) (j.2.2.2.1.1,j.2.2.2.1.2.1,j.2.2.2.1.2.2)) fun r3=>
 some (q6_11.1,q6_11.2.1,r3.1,r3.2)
def C26:Con:=⟨PTz5×Al×Int,Int×Bl,0,fun x=>[.dat T11 x.1,.dat T8 x.2.1,.dat T0 x.2.2],NX,fun x=>f26 x.1 x.2.1 x.2.2,fun y=>[.raw true [(.osl 0),(.osl 1)],.raw true [(.d T0 y.1),(.d T9 y.2.1)]],fun y=>[(0,.arr 26 T0 y.2.2.1),(1,.arr 26 T0 y.2.2.2)],2⟩
theorem V26 j s k y (q:f26 j s k=some y):VC Tryz.f26 C26 (j,s,k) y:=by
 unfold f26 at q
 refine OL (OL ?_)
 obtain ⟨r1,h,q⟩:=bE q
 refine OL (cA H37 ((j.2.2.2.2.1.length:Int),j.2.2.1,k) h rfl (R3 (K0 (OL (OL (OL ?_))))))
 obtain ⟨z2,hz2,q⟩:=bE q
 let h0:LH:=fun zz=>(0,.cells [(.d T5 j.1.1),(.d T4 j.1.2),(.d T0 j.2.1),(.d T0 j.2.2.1),(.d T0 j.2.2.2.1.1),(.d T0 j.2.2.2.1.2.1),(.d T0 j.2.2.2.1.2.2),(.d T12 j.2.2.2.2.1),(.d T5 j.2.2.2.2.2)])::(1,.cells [(.d T5 s.1),(.d T5 s.2)])::(2,.cells [N0,N0])::(3,.cells [(.d T0 (0:Int)),(.d T9 (0:Int))])::zz
 refine lJ hz2 (fun x=>⟨[(3,P0 0 0),(4,P0 1 0),(6,P0 2 0),(7,P0 3 0),(8,O0 4),(10,O0 5),(11,.dat T0 x.1)],h0 [(4,.arr 3 T0 r1.2),(5,.arr 84 T2 x.2)],6⟩) (fun z=>[(2,⟨[(3,P0 0 0),(4,P0 1 0),(6,P0 2 0),(7,P0 3 0),(10,O0 4)],h0 [(4,.arr 84 T2 z)],5⟩)]) (E4 (iuR [1,2,3,4,5,0]) (R2 (AI (R6 TV) (R6 TV)))) (fun m=>An (fun i=>fun l5 z q=>?_)) ?_
 ·have q:f26_l1 j r1 _ i l5=some z:=q
  unfold f26_l1 at q
  refine OL (OL (cI q (fun q=>?_) (fun q=>?_)))
  ·refine OL (EI (tU 0 9 (.alt 9 (.alt 10 (.take 11 .done) .done) .done)) (EI [] (EI [] (AI rfl (gI q (fun q=>?_))))))
   refine gI q (fun q=>?_)
   refine AI TV (OL (AI TV (OL (gI q (fun q=>?_)))))
   refine EI ((i64.wrap (i+1)),(l5++([((rd (Ty.z T2) j.2.2.2.2.1 (rd 0 r1.2 i)).1,((rd (Ty.z T2) j.2.2.2.2.1 (rd 0 r1.2 i)).2).1,((rd (Ty.z T2) j.2.2.2.2.1 (rd 0 r1.2 i)).2).2)]))) (AI q (E4 (iuR [1,2,3,4,5,8]) (R2 (AI (R6 TV) (R6 TV)))))
  cases sE q
  refine E4 (iuR [1,2,3,4,6]) (AI rfl (AI (R5 TV) (R5 TV)))
 refine AI (OL ?_) TV
 obtain ⟨q6_11,h,q⟩:=bE q
 refine OL (cD H38 ((j.1.1,j.1.2),j.2.1,s.1,z2) h rfl (R5 (AI (fun _=>rfl) (R2 (AI TV (AI TV (OL (OL ?_))))))))
 obtain ⟨r3,h,q⟩:=bE q
 refine OL (cD H39 ((s.1,s.2),q6_11.2.2,(z2.length:Int),(j.2.2.2.1.1,j.2.2.2.1.2.1,j.2.2.2.1.2.2)) h rfl (R6 (AI (fun _=>rfl) (R2 (AI TV (AI TV (OL (OL (EI (.take 0 (.take 1 (.alt 2 (.alt 3 .done .done) .done))) (EI [] (EI [] (AI rfl (AI TV (OL (AI TV (OL ?_))))))))))))))))
 cases sE q
 refine AI rfl (E4 (iuR [8,9]) (AI rfl (AI (R2 TV) (R2 TV))))
theorem H26:HI C26 26:=hI Tryz.f26 rfl fun x=>V26 x.1 x.2.1 x.2.2
def f15_l1 (j:PTz5) (k:Int) (go:Bl→Option Al) (i:Int) (l3 l4:LI):Option Al:=
 bif (decide (i<k)) then
 Ac (f26 ((j.1.1,j.1.2),j.2.1,j.2.2.1,(j.2.2.2.1.1,j.2.2.2.1.2.1,j.2.2.2.1.2.2),j.2.2.2.2.1,j.2.2.2.2.2) (l3,l4) i) fun r5=>
 go ((i64.wrap (i+1)),r5.2.2.1,r5.2.2.2)
 else
 some (l3,l4)
def f15 (j:PTz5) (k:Int):Option Al:=
 Ac (f25 j.2.2.2.2.2) fun r1=>
 Ac (Ag (fun go x=>f15_l1 j k go x.1 x.2.1 x.2.2) Ah ((0:Int),r1.1,r1.2)) fun z4=>
 some (z4.1,z4.2)
def C15:Con:=⟨PTz5×Int,Al,0,fun x=>[.dat T11 x.1,.dat T0 x.2],NX,fun x=>f15 x.1 x.2,fun y=>[.raw true [(.osl 0),(.osl 1)]],fun y=>[(0,.arr 26 T0 y.1),(1,.arr 26 T0 y.2)],2⟩
theorem V15 j k y (q:f15 j k=some y):VC Tryz.f15 C15 (j,k) y:=by
 unfold f15 at q
 refine OL (OL ?_)
 obtain ⟨r1,h,q⟩:=bE q
 refine OL (cA H25 j.2.2.2.2.2 h rfl (AI rfl (K0 (OL (OL (OL ?_))))))
 obtain ⟨z4,h,q⟩:=bE q
 refine lJ h (fun x=>⟨[(1,.dat T0 k),(2,P0 0 0),(4,P0 1 0),(5,P0 2 0),(6,.dat T0 x.1)],[(0,.cells [(.d T5 j.1.1),(.d T4 j.1.2),(.d T0 j.2.1),(.d T0 j.2.2.1),(.d T0 j.2.2.2.1.1),(.d T0 j.2.2.2.1.2.1),(.d T0 j.2.2.2.1.2.2),(.d T12 j.2.2.2.2.1),(.d T5 j.2.2.2.2.2)]),(1,.cells [N0,N0]),(2,.cells [(.osl 3),(.osl 4)]),(3,.arr 26 T0 x.2.1),(4,.arr 26 T0 x.2.2)],5⟩) (fun z=>[(2,⟨[(4,P0 0 0),(5,P0 1 0)],[(0,.cells [N0,N0]),(1,.cells [(.osl 2),(.osl 3)]),(2,.arr 26 T0 z.1),(3,.arr 26 T0 z.2)],4⟩)]) (E4 (iuR [1,2,5,3,4]) (R3 (AI (R3 TV) (R5 TV)))) (fun m=>An (fun i=>An (fun l3=>fun l4 z q=>?_))) ?_
 ·have q:f15_l1 j k _ i l3 l4=some z:=q
  unfold f15_l1 at q
  refine OL (OL (cI q (fun q=>?_) (fun q=>?_)))
  ·refine OL ?_
   obtain ⟨r5,h,q⟩:=bE q
   refine OL (cD H26 (((j.1.1,j.1.2),j.2.1,j.2.2.1,(j.2.2.2.1.1,j.2.2.2.1.2.1,j.2.2.2.1.2.2),j.2.2.2.2.1,j.2.2.2.2.2),(l3,l4),i) h rfl (R5 (AI (fun _=>rfl) (R2 (AI TV (AI TV (OL (EI ((i64.wrap (i+1)),r5.2.2.1,r5.2.2.2) (AI q (E4 (iuR [1,2,3,6,7]) (R3 (AI (R3 TV) (R5 TV)))))))))))))
  cases sE q
  refine E4 (iuR [2,3,4,5]) (AI rfl (AI (R2 TV) (R4 TV)))
 refine AI (OL (OL ?_)) TV
 cases sE q
 refine AI rfl (E4 (iuR [3,4]) (AI rfl (AJ (R2 TV))))
theorem H15:HI C15 15:=hI Tryz.f15 rfl fun x=>V15 x.1 x.2
def f10_l1 (a b:LI) (go:Int→Option (Sum Unit Unit)) (i:Int):Option (Sum Unit Unit):=
 bif (decide (i<a.length)) then
 Ad (0≤i∧i<a.length)<|
 Ad (0≤i∧i<b.length)<|
 bif ((rd 0 a i) != (rd 0 b i)) then
 some (Sum.inl ())
 else
 go (i64.wrap (i+1))
 else
 some (Sum.inr ())
def f10 (a b:LI):Option Bool:=
 bif ((a.length:Int) != b.length) then
 some false
 else
 Ac (Ag (fun go x=>f10_l1 a b go x) Ah (0:Int)) fun z1=>
 Ak z1 (fun z1a=>
 some false) (fun z1b=>
 some true)
def C10:Con:=⟨Al,Bool,0,fun x=>[.dat T5 x.1,.dat T5 x.2],NX,fun x=>f10 x.1 x.2,fun y=>[.dat .bool y],NX,0⟩
theorem V10 a b y (q:f10 a b=some y):VC Tryz.f10 C10 (a,b) y:=by
 unfold f10 at q
 refine OL (OL (OL (cI q (fun q=>?_) (fun q=>?_))))
 ·cases sE q
  refine OL (AI rfl (E4 [] (R2 (AI TV TV))))
 refine OL (OL ?_)
 obtain ⟨z1,h,q⟩:=bE q
 refine lJ h (fun x=>⟨[(0,.dat T5 a),(1,.dat T5 b),(5,.dat T0 x)],[],0⟩) (fun z=>Sum.elim (fun za=>[(1,⟨[(4,.dat .bool false)],[],0⟩)]) (fun zb=>[(2,⟨[],[],0⟩)]) z) (E4 [] (R4 (AI TV TV))) (fun m=>fun i z q=>?_) ?_
 ·have q:f10_l1 a b _ i=some z:=q
  unfold f10_l1 at q
  refine OL (OL (cI q (fun q=>?_) (fun q=>?_)))
  ·refine OL (OL (EI (tU 0 9 .done) (EI [] (EI [] (AI rfl (gI q (fun q=>?_)))))))
   refine gI q (fun q=>?_)
   refine cI q (fun q=>?_) (fun q=>?_)
   ·cases sE q
    refine OL (E4 [] (R2 (AI TV TV)))
   refine EI (i64.wrap (i+1)) (AI q (E4 [] (R4 (AI TV TV))))
  cases sE q
  refine E4 [] (AI rfl (AI TV TV))
 rcases z1 with z1a | z1b
 ·dsimp only [Ak] at q
  refine AI ?_ TV
  cases sE q
  refine AI rfl (E4 [] (R2 (AI TV TV)))
 dsimp only [Ak] at q
 refine AI (OL ?_) TV
 cases sE q
 refine AI rfl (E4 [] (R2 (AI TV TV)))
theorem H10:HI C10 10:=hI Tryz.f10 rfl fun x=>V10 x.1 x.2
def f14 (s w:Al):Option Bool:=
 Ac (f10 s.1 w.1) fun r1=>
 bif r1 then
 Ac (f10 s.2 w.2) fun r2=>
 some r2
 else
 some false
def C14:Con:=⟨Al×Al,Bool,0,fun x=>[.dat T8 x.1,.dat T8 x.2],NX,fun x=>f14 x.1 x.2,fun y=>[.dat .bool y],NX,0⟩
theorem V14 s w y (q:f14 s w=some y):VC Tryz.f14 C14 (s,w) y:=by
 unfold f14 at q
 refine OL (OL ?_)
 obtain ⟨r1,h,q⟩:=bE q
 refine OL (cA H10 (s.1,w.1) h rfl (R2 (K0 (cI q (fun q=>?_) (fun q=>?_)))))
 ·refine gX (gX (gX (gX ?_)))
  obtain ⟨r2,h,q⟩:=bE q
  refine OL (cA H10 (s.2,w.2) h rfl (R2 (K0 (cT ?_))))
  cases sE q
  refine AI rfl (E4 [] (R2 (AI TV TV)))
 refine gM (gM (gM (gM (cF ?_))))
 cases sE q
 refine AI rfl (E4 [] (R2 (AI TV TV)))
theorem H14:HI C14 14:=hI Tryz.f14 rfl fun x=>V14 x.1 x.2
end Go.Proofs
