import Derived.Test.YtnmfbobdffnblaaGreatSoloTurnsS3
set_option linter.unusedVariables false
set_option maxRecDepth 100000
set_option maxHeartbeats 8000000
namespace Go.Proofs
open Go.AM
open IntKind (i64 u64 i32 u32 i16 u16 i8 u8)
def f150_l1 (g:Al) (r1:Int×LI×Al) (go:Bc→Option LI) (v29:Int) (l5:LI):Option LI:=
 bif (decide (v29<r1.2.2.2.length)) then
 Ad (0≤v29∧v29<r1.2.2.2.length)<|
 Ad (0≤v29∧v29<g.2.length)<|
 Ad (0≤(rd 0 r1.2.2.2 v29)∧(rd 0 r1.2.2.2 v29)<l5.length)<|
 go ((i64.wrap (v29+1)),(List.set l5 (Int.toNat (rd 0 r1.2.2.2 v29)) (rd 0 g.2 v29)))
 else
 some l5
def f150 (g a:Al) (wide:Int):Option Al:=
 Ac (f75 a.1 (0:Int)) fun q6_9=>
 Ac (f194 (a.1,a.2) wide) fun r1=>
 Ac (Ag (fun go x=>f150_l1 g r1 go x.1 x.2) Ah ((0:Int),q6_9.2.2)) fun z2=>
 some (q6_9.2.1,z2)
def C150:Con:=⟨Al×Al×Int,Al,0,fun x=>[.dat T8 x.1,.dat T8 x.2.1,.dat T0 x.2.2],NX,fun x=>f150 x.1 x.2.1 x.2.2,fun y=>[.raw true [(.osl 0),(.osl 1)]],fun y=>[(0,.arr 3 T0 y.1),(1,.arr 26 T0 y.2)],2⟩
theorem V150 g a wide y (q:f150 g a wide=some y):VC Tryz.f150 C150 (g,a,wide) y:=by
 unfold f150 at q
 refine OL (OL ?_)
 obtain ⟨q6_9,h,q⟩:=bE q
 refine OL (cA H75 (a.1,(0:Int)) h rfl (R2 (K0 (OL (OL ?_)))))
 obtain ⟨r1,h,q⟩:=bE q
 refine OL (cA H194 ((a.1,a.2),wide) h rfl (R3 (K0 (OL (OL (OL ?_))))))
 obtain ⟨z2,h,q⟩:=bE q
 refine lJ h (fun x=>⟨[(3,P0 0 0),(6,P0 1 0),(7,P0 2 0),(27,O0 3),(28,.dat T0 (r1.2.2.2.length:Int)),(29,.dat T0 x.1)],[(0,.cells [(.d T5 g.1),(.d T5 g.2)]),(1,.cells [N0,N0]),(2,.cells [(.osl 4),(.osl 5)]),(3,.arr 3 T0 r1.2.2.2),(4,.arr 3 T0 q6_9.2.1),(5,.arr 26 T0 x.2)],6⟩) (fun z=>[(2,⟨[(6,P0 0 0),(7,P0 1 0)],[(0,.cells [N0,N0]),(1,.cells [(.osl 2),(.osl 3)]),(2,.arr 3 T0 q6_9.2.1),(3,.arr 26 T0 z)],4⟩)]) (E4 (iuR [1,3,6,9,4,5]) (R3 (AI (R4 TV) (R6 TV)))) (fun m=>An (fun v29=>fun l5 z q=>?_)) ?_
 ·have q:f150_l1 g r1 _ v29 l5=some z:=q
  unfold f150_l1 at q
  refine OL (OL (cI q (fun q=>?_) (fun q=>?_)))
  ·refine OL (OL (gI q (fun q=>?_)))
   refine EI (tU 0 9 (.alt 9 .done .done)) (EI [] (EI [] (AI rfl (gI q (fun q=>?_)))))
   refine gI q (fun q=>?_)
   refine AI TV (OL (EI ((i64.wrap (v29+1)),(List.set l5 (Int.toNat (rd 0 r1.2.2.2 v29)) (rd 0 g.2 v29))) (AI q (E4 I6 (R3 (AI (R4 TV) (R6 TV)))))))
  cases sE q
  refine E4 (iuR [2,3,5,6]) (AI rfl (AI (R2 TV) (R4 TV)))
 refine AI (OL (OL ?_)) TV
 cases sE q
 refine AI rfl (E4 (iuR [3,4]) (AI rfl (AJ (R2 TV))))
theorem H150:HI C150 150:=hI Tryz.f150 rfl fun x=>V150 x.1 x.2.1 x.2.2
def f121_j1 (n:ND):Option Bool:=
 bif (n.1==2) then
 some (n.1==2)
 else
 some (n.1==3)
def f121 (n:ND) (a b g:Al):Option Bl:=
 Ac (f121_j1 n) fun z1=>
 bif z1 then
 Ac (f141 (g.1,g.2) a.1) fun r2=>
 some (r2.1,r2.2.1,r2.2.2)
 else
 bif (n.1==4) then
 Ac (f142 (g.1,g.2) (b.1,b.2)) fun r3=>
 Ac (f143 (r3.2.1,r3.2.2) r3.1 a.1) fun r4=>
 some (r4.1,r4.2.1,r4.2.2)
 else
 bif (n.1==5) then
 Ac (f144 (g.1,g.2) n.2.2.2.1) fun r5=>
 some (r5.1,r5.2.1,r5.2.2)
 else
 bif (n.1==6) then
 Ac (f145 (g.1,g.2) (b.1,b.2) false) fun r6=>
 some (r6.1,r6.2.1,r6.2.2)
 else
 bif (n.1==7) then
 Ac (f146 (g.1,g.2)) fun r7=>
 some (r7.1,r7.2.1,r7.2.2)
 else
 bif (n.1==8) then
 Ac (f147 (g.1,g.2) a.1 n.2.2.2.1) fun r8=>
 some ((0:Int),r8.1,r8.2)
 else
 bif (n.1==9) then
 Ad (0≤(0:Int)∧0<(g.2.length:Int))<|
 Ac (f75 a.1 (rd 0 g.2 0)) fun q17_6=>
 some (q17_6.1,q17_6.2.1,q17_6.2.2)
 else
 bif (n.1==10) then
 Ad (0≤(0:Int)∧0<(g.2.length:Int))<|
 Ac (f32 (rd 0 g.2 0)) fun q19_6=>
 Ac (f53 (q19_6.1,q19_6.2) (a.2.length:Int)) fun q19_10=>
 Ac (f75 a.1 q19_10) fun q19_11=>
 some (q19_11.1,q19_11.2.1,q19_11.2.2)
 else
 bif (n.1==11) then
 Ac (f148 n.2.2.2.1 (a.1,a.2) (g.1,g.2)) fun q19_15=>
 some (q19_15.1,q19_15.2.1,q19_15.2.2)
 else
 bif (n.1==12) then
 Ad (0≤(1:Int)∧1<(a.1.length:Int))<|
 Ac (f149 (g.1,g.2) (b.1,b.2) n.2.2.2.1 (rd 0 a.1 1)) fun q23_8=>
 some (q23_8.1,q23_8.2.1,q23_8.2.2)
 else
 bif (n.1==13) then
 Ac (f150 (g.1,g.2) (a.1,a.2) n.2.2.2.1) fun q23_12=>
 some ((0:Int),q23_12.1,q23_12.2)
 else
 bif (n.1==14) then
 Ac (f151 (g.1,g.2) a.1) fun r9=>
 some (r9.1,r9.2.1,r9.2.2)
 else
 some ((0:Int),[],[])
def C121:Con:=⟨(ND)×Al×Al×Al,Bl,0,fun x=>[.dat T7 x.1,.dat T8 x.2.1,.dat T8 x.2.2.1,.dat T8 x.2.2.2],NX,fun x=>f121 x.1 x.2.1 x.2.2.1 x.2.2.2,fun y=>[.raw true [(.osl 0),(.osl 1)],.dat T0 y.1],fun y=>[(0,.arr 3 T0 y.2.1),(1,.arr 26 T0 y.2.2)],2⟩
theorem V121 n a b g y (q:f121 n a b g=some y):VC Tryz.f121 C121 (n,a,b,g) y:=by
 unfold f121 at q
 refine OL (OL (OL ?_))
 obtain ⟨z1,hz1,q⟩:=bE q
 refine OQ ⟨[(0,⟨[(4,P0 0 0),(5,P0 1 0),(6,P0 2 0),(7,P0 3 0),(8,P0 4 0),(13,.dat T0 n.1),(14,.dat .bool z1)],[(0,.cells [(.d T0 n.1),(.d T0 n.2.1),(.d T0 n.2.2.1),(.d T0 n.2.2.2.1),(.d T5 n.2.2.2.2.1),(.d T5 n.2.2.2.2.2)]),(1,.cells [(.d T5 a.1),(.d T5 a.2)]),(2,.cells [(.d T5 b.1),(.d T5 b.2)]),(3,.cells [(.d T5 g.1),(.d T5 g.2)]),(4,.cells [N0,N0])],5⟩)],?_,?_⟩
 ·have q:=hz1
  clear hz1
  unfold f121_j1 at q
  refine OL (cI q (fun q=>?_) (fun q=>?_))
  ·cases sE q
   refine E4 I5 (R3 (AI (R5 TV) (R5 TV)))
  cases sE q
  refine E4 I5 (R3 (AI (R5 TV) (R5 TV)))
 refine AI (cI q (fun q=>?_) (fun q=>?_)) TV
 ·refine OL ?_
  obtain ⟨r2,h,q⟩:=bE q
  refine OL (cA H141 ((g.1,g.2),a.1) h rfl (R3 (K0 (OL ?_))))
  cases sE q
  refine AI rfl (E4 (iuR [6,7]) (R2 (AJ (R2 TV))))
 refine OL (cI q (fun q=>?_) (fun q=>?_))
 ·refine OL ?_
  obtain ⟨r3,h,q⟩:=bE q
  refine OL (cA H142 ((g.1,g.2),(b.1,b.2)) h rfl (R4 (K0 (OL (OL ?_)))))
  obtain ⟨r4,h,q⟩:=bE q
  refine OL (cD H143 ((r3.2.1,r3.2.2),r3.1,a.1) h rfl (R4 (AI (fun _=>rfl) (R2 (AI TV (AI TV (OL ?_)))))))
  cases sE q
  refine AI rfl (E4 (iuR [9,10]) (R2 (AJ (R2 TV))))
 refine OL (cI q (fun q=>?_) (fun q=>?_))
 ·refine OL ?_
  obtain ⟨r5,h,q⟩:=bE q
  refine OL (cA H144 ((g.1,g.2),n.2.2.2.1) h rfl (R3 (K0 (OL ?_))))
  cases sE q
  refine AI rfl (E4 (iuR [6,7]) (R2 (AJ (R2 TV))))
 refine OL (cI q (fun q=>?_) (fun q=>?_))
 ·refine OL ?_
  obtain ⟨r6,h,q⟩:=bE q
  refine OL (cA H145 ((g.1,g.2),(b.1,b.2),false) h rfl (R5 (K0 (OL ?_))))
  cases sE q
  refine AI rfl (E4 (iuR [6,7]) (R2 (AJ (R2 TV))))
 refine OL (cI q (fun q=>?_) (fun q=>?_))
 ·refine OL ?_
  obtain ⟨r7,h,q⟩:=bE q
  refine OL (cA H146 (g.1,g.2) h rfl (R2 (K0 (OL ?_))))
  cases sE q
  refine AI rfl (E4 (iuR [6,7]) (R2 (AJ (R2 TV))))
 refine OL (cI q (fun q=>?_) (fun q=>?_))
 ·refine OL ?_
  obtain ⟨r8,h,q⟩:=bE q
  refine OL (cA H147 ((g.1,g.2),a.1,n.2.2.2.1) h rfl (R4 (K0 (OL ?_))))
  cases sE q
  refine AI rfl (E4 (iuR [6,7]) (R2 (AJ (R2 TV))))
 refine OL (cI q (fun q=>?_) (fun q=>?_))
 ·refine OL (EI (tU 0 6 (.alt 6 (.take 7 (.take 8 (.alt 9 (.take 10 .done) .done))) .done)) (EI [] (EI [] (AI rfl (gI q (fun q=>?_))))))
  refine AI TV ?_
  obtain ⟨q17_6,h,q⟩:=bE q
  refine OL (cA H75 (a.1,(rd 0 g.2 0)) h rfl (R2 (K0 (AI TV (OL ?_)))))
  cases sE q
  refine AI rfl (E4 (iuR [6,7]) (R2 (AJ (R2 TV))))
 refine OL (cI q (fun q=>?_) (fun q=>?_))
 ·refine OL (EI (tU 0 6 (tU 7 3 (.alt 6 (.alt 10 (.alt 11 (.take 12 (.take 13 (.alt 14 (.take 15 .done) .done))) .done) .done) .done))) (EI [] (EI [] (AI rfl (gI q (fun q=>?_))))))
  refine AI TV ?_
  obtain ⟨q19_6,h,q⟩:=bE q
  refine OL (cA H32 (rd (0:Int) g.2 0) h rfl (AI rfl (K0 (AI TV ?_))))
  obtain ⟨q19_10,h,q⟩:=bE q
  refine OL (cA H53 ((q19_6.1,q19_6.2),(a.2.length:Int)) h rfl (R3 (K0 (AI TV ?_))))
  obtain ⟨q19_11,h,q⟩:=bE q
  refine OL (cA H75 (a.1,q19_10) h rfl (R2 (K0 (AI TV (OL ?_)))))
  cases sE q
  refine AI rfl (E4 (iuR [6,7]) (R2 (AJ (R2 TV))))
 refine OL (cI q (fun q=>?_) (fun q=>?_))
 ·refine OL ?_
  obtain ⟨q19_15,h,q⟩:=bE q
  refine OL (cA H148 (n.2.2.2.1,(a.1,a.2),(g.1,g.2)) h rfl (R5 (K0 (OL ?_))))
  cases sE q
  refine AI rfl (E4 (iuR [6,7]) (R2 (AJ (R2 TV))))
 refine OL (cI q (fun q=>?_) (fun q=>?_))
 ·refine OL (EI (tU 0 8 (.alt 8 (.take 9 (.take 10 (.alt 11 (.take 12 .done) .done))) .done)) (EI [] (EI [] (AI rfl (gI q (fun q=>?_))))))
  refine AI TV ?_
  obtain ⟨q23_8,h,q⟩:=bE q
  refine OL (cA H149 ((g.1,g.2),(b.1,b.2),n.2.2.2.1,(rd 0 a.1 1)) h rfl (R6 (K0 (AI TV (OL ?_)))))
  cases sE q
  refine AI rfl (E4 (iuR [6,7]) (R2 (AJ (R2 TV))))
 refine OL (cI q (fun q=>?_) (fun q=>?_))
 ·refine OL ?_
  obtain ⟨q23_12,h,q⟩:=bE q
  refine OL (cA H150 ((g.1,g.2),(a.1,a.2),n.2.2.2.1) h rfl (R5 (K0 (OL ?_))))
  cases sE q
  refine AI rfl (E4 (iuR [6,7]) (R2 (AJ (R2 TV))))
 refine OL (cI q (fun q=>?_) (fun q=>?_))
 ·refine OL ?_
  obtain ⟨r9,h,q⟩:=bE q
  refine OL (cA H151 ((g.1,g.2),a.1) h rfl (R3 (K0 (OL ?_))))
  cases sE q
  refine AI rfl (E4 (iuR [6,7]) (R2 (AJ (R2 TV))))
 refine OL (OL ?_)
 cases sE q
 refine AI rfl (E4 (iuR [0,0]) (R2 (AJ (R2 TV))))
theorem H121:HI C121 121:=hI Tryz.f121 rfl fun x=>V121 x.1 x.2.1 x.2.2.1 x.2.2.2
def f152_j4 (g a:Al) (step wid:Int):Option Bool:=
 Ac (f119 (g.1,g.2)) fun r15=>
 bif (!r15) then
 some true
 else
 Ac (f119 (a.1,a.2)) fun r16=>
 bif (!r16) then
 some true
 else
 Ac (f188 step) fun r17=>
 bif (!r17) then
 some true
 else
 Ac (f189 wid) fun r18=>
 some (!r18)
def f152_j5 (g a:Al) (step wid:Int):Option Bool:=
 bif ((g.1.length:Int) != 2) then
 some true
 else
 bif ((a.1.length:Int) != 2) then
 some true
 else
 Ad (0≤(1:Int)∧1<(a.1.length:Int))<|
 Ad (0≤(1:Int)∧1<(g.1.length:Int))<|
 Ac (f190 (rd 0 a.1 1) wid step) fun q3_17=>
 some (q3_17 != (rd 0 g.1 1))
def f152_j3 (g a:Al) (step wid:Int):Option (Sum Unit Int):=
 Ac (f152_j4 g a step wid) fun z14=>
 bif z14 then
 some (Sum.inr (1:Int))
 else
 Ac (f152_j5 g a step wid) fun z19=>
 bif z19 then
 some (Sum.inr (4:Int))
 else
 some (Sum.inl ())
def f152_l9 (g a:Al) (step wid v97:Int) (go:PTz7→Option Bw) (v114 c4_0 c4_1 c4_2:Int):Option Bw:=
 bif (decide (v114<(rd 0 g.1 1))) then
 Ad (0≤(i64.wrap ((i64.wrap ((i64.wrap (Int.tdiv v97 (i64.wrap ((rd 0 a.1 0)*wid))))*(rd 0 g.1 1)))+v114))∧(i64.wrap ((i64.wrap ((i64.wrap (Int.tdiv v97 (i64.wrap ((rd 0 a.1 0)*wid))))*(rd 0 g.1 1)))+v114))<g.2.length)<|
 Ad (0≤(i64.wrap ((i64.wrap ((i64.wrap ((Int.tmod (i64.wrap (Int.tdiv v97 wid)) (rd 0 a.1 0))*(rd 0 a.1 1)))+(i64.wrap (v114*step))))+(Int.tmod v97 wid)))∧(i64.wrap ((i64.wrap ((i64.wrap ((Int.tmod (i64.wrap (Int.tdiv v97 wid)) (rd 0 a.1 0))*(rd 0 a.1 1)))+(i64.wrap (v114*step))))+(Int.tmod v97 wid)))<a.2.length)<|
 Ac (f192 c4_0 c4_1 c4_2 (rd 0 g.2 (i64.wrap ((i64.wrap ((i64.wrap (Int.tdiv v97 (i64.wrap ((rd 0 a.1 0)*wid))))*(rd 0 g.1 1)))+v114))) (rd 0 a.2 (i64.wrap ((i64.wrap ((i64.wrap ((Int.tmod (i64.wrap (Int.tdiv v97 wid)) (rd 0 a.1 0))*(rd 0 a.1 1)))+(i64.wrap (v114*step))))+(Int.tmod v97 wid))))) fun q17_22=>
 go ((i64.wrap (v114+1)),q17_22.1,q17_22.2.1,q17_22.2.2)
 else
 some (c4_0,c4_1,c4_2)
def f152_l8 (g a:Al) (step wid:Int) (q5_14:Bl) (go:Bc→Option LI) (v97:Int) (l5:LI):Option LI:=
 bif (decide (v97<q5_14.2.2.length)) then
 Ad ((i64.wrap ((rd 0 a.1 0)*wid))≠0)<|
 Ad (wid≠0)<|
 Ad ((rd 0 a.1 0)≠0)<|
 Ad (wid≠0)<|
 Ac (Ag (fun go x=>f152_l9 g a step wid v97 go x.1 x.2.1 x.2.2.1 x.2.2.2) Ah ((0:Int),(0:Int),(0:Int),(0:Int))) fun z23=>
 Ac (f193 z23.1 z23.2.1 z23.2.2 (32:Int)) fun q19_3=>
 Ad (0≤v97∧v97<l5.length)<|
 go ((i64.wrap (v97+1)),(List.set l5 (Int.toNat v97) q19_3.1))
 else
 some l5
def f152 (g a:Al) (step wid:Int):Option Bl:=
 Ac (f152_j3 g a step wid) fun z10=>
 Ak z10 (fun z10a=>
 Ad (0≤(0:Int)∧0<(a.1.length:Int))<|
 Ad (0≤(1:Int)∧1<(a.1.length:Int))<|
 Ad (0≤(1:Int)∧1<(g.1.length:Int))<|
 Ad (0≤(0:Int)∧0<(g.1.length:Int))<|
 Ac (f191 ([(rd 0 g.1 0),(rd 0 a.1 0),wid])) fun q5_14=>
 bif (q5_14.1 != 0) then
 some (q5_14.1,[],[])
 else
 Ac (Ag (fun go x=>f152_l8 g a step wid q5_14 go x.1 x.2) Ah ((0:Int),q5_14.2.2)) fun z22=>
 some ((0:Int),q5_14.2.1,z22)) (fun z10b=>
 some (z10b,[],[]))
def C152:Con:=⟨Al×Al×Ax,Bl,0,fun x=>[.dat T8 x.1,.dat T8 x.2.1,.dat T0 x.2.2.1,.dat T0 x.2.2.2],NX,fun x=>f152 x.1 x.2.1 x.2.2.1 x.2.2.2,fun y=>[.raw true [(.osl 0),(.osl 1)],.dat T0 y.1],fun y=>[(0,.arr 3 T0 y.2.1),(1,.arr 26 T0 y.2.2)],2⟩
theorem V152 g a step wid y (q:f152 g a step wid=some y):VC Tryz.f152 C152 (g,a,step,wid) y:=by
 unfold f152 at q
 refine OL ?_
 obtain ⟨z10,hz10,q⟩:=bE q
 let e0:LE:=fun zz=>(2,.dat T0 step)::(3,.dat T0 wid)::(4,P0 0 0)::(5,P0 1 0)::(8,P0 2 0)::zz
 let h1:LH:=fun zz=>(0,.cells [(.d T5 g.1),(.d T5 g.2)])::(1,.cells [(.d T5 a.1),(.d T5 a.2)])::(2,.cells [N0,N0])::zz
 refine OQ ⟨Sum.elim (fun z10a=>[(0,⟨e0 [],h1 [],3⟩)]) (fun z10b=>[(1,⟨[(8,P0 0 0),(9,.dat T0 z10b)],[(0,.cells [N0,N0])],1⟩)]) z10,?_,?_⟩
 ·have q:=hz10
  clear hz10
  unfold f152_j3 at q
  obtain ⟨z14,hz14,q⟩:=bE q
  refine OQ ⟨[(0,⟨e0 [(21,.dat .bool z14)],h1 [],3⟩)],?_,?_⟩
  ·have q:=hz14
   clear hz14
   unfold f152_j4 at q
   obtain ⟨r15,h,q⟩:=bE q
   refine OL (cA H119 (g.1,g.2) h rfl (R2 (K0 (cN q (fun q=>?_) (fun q=>?_)))))
   ·refine gY ?_
    obtain ⟨r16,h,q⟩:=bE q
    refine OL (cA H119 (a.1,a.2) h rfl (R2 (K0 (gY (cF (cN q (fun q=>?_) (fun q=>?_)))))))
    ·refine gY ?_
     obtain ⟨r17,h,q⟩:=bE q
     refine OL (cA H188 step h rfl (AI rfl (K0 (gY (cF (cN q (fun q=>?_) (fun q=>?_)))))))
     ·refine gY ?_
      obtain ⟨r18,h,q⟩:=bE q
      refine OL (cA H189 wid h rfl (AI rfl (K0 (gY (cF ?_)))))
      cases sE q
      refine E4 I3 (R4 (AI (R3 TV) (R3 TV)))
     refine gN (gN (cT ?_))
     cases sE q
     refine E4 I3 (R4 (AI (R3 TV) (R3 TV)))
    refine gN (gN (cT (gN (gN (gN (cT ?_))))))
    cases sE q
    refine E4 I3 (R4 (AI (R3 TV) (R3 TV)))
   refine gN (gN (cT (gN (gN (gN (cT (gN (gN (gN (cT ?_))))))))))
   cases sE q
   refine E4 I3 (R4 (AI (R3 TV) (R3 TV)))
  refine AI (cI q (fun q=>?_) (fun q=>?_)) TV
  ·refine OL (OL ?_)
   cases sE q
   refine E4 (iuR [3]) (R2 (AJ (AI rfl TV)))
  obtain ⟨z19,hz19,q⟩:=bE q
  refine OQ ⟨[(0,⟨e0 [(41,.dat .bool z19)],h1 [],3⟩)],?_,?_⟩
  ·have q:=hz19
   clear hz19
   unfold f152_j5 at q
   refine EI (tU 0 17 (tU 18 4 (.alt 17 (tU 22 3 .done) .done))) (EI [] (EI [] (AI rfl (cN q (fun q=>?_) (fun q=>?_)))))
   ·refine gY (gY (gY (cF (cN q (fun q=>?_) (fun q=>?_)))))
    ·refine gY (gY (gI q (fun q=>?_)))
     refine gY (gY (gY (gY (gY (gY (gI q (fun q=>?_)))))))
     refine gY (AI TV (gY ?_))
     obtain ⟨q3_17,h,q⟩:=bE q
     refine OL (cA H190 ((rd 0 a.1 1),wid,step) h rfl (R3 (K0 (gY (cF ?_)))))
     cases sE q
     refine E4 I3 (R4 (AI (R3 TV) (R3 TV)))
    refine gN (gN (gN (gN (gN (gN (gN (gN (gN (AI TV (gN (gN (cT ?_))))))))))))
    cases sE q
    refine E4 I3 (R4 (AI (R3 TV) (R3 TV)))
   refine gN (gN (gN (cT (gN (gN (gN (gN (gN (gN (gN (gN (gN (gN (AI TV (gN (gN (cT ?_)))))))))))))))))
   cases sE q
   refine E4 I3 (R4 (AI (R3 TV) (R3 TV)))
  refine AI (cI q (fun q=>?_) (fun q=>?_)) TV
  ·refine OL (OL ?_)
   cases sE q
   refine E4 (iuR [3]) (R2 (AJ (AI rfl TV)))
  cases sE q
  refine E4 I3 (R3 (AI (R3 TV) (R3 TV)))
 rcases z10 with z10a | z10b
 ·dsimp only [Ak] at q
  refine AI (OL (EI (tU 0 15 .done) (EI [] (EI [] (AI rfl (gI q (fun q=>?_))))))) TV
  refine gI q (fun q=>?_)
  refine gI q (fun q=>?_)
  refine OL (gI q (fun q=>?_))
  refine OL ?_
  obtain ⟨q5_14,h,q⟩:=bE q
  refine OL (cD H191 [(rd 0 g.1 0),(rd 0 a.1 0),wid] h rfl (AI rfl (AI (fun _=>rfl) (R2 (AI TV (AI TV (OL (OL (OL (cI q (fun q=>?_) (fun q=>?_)))))))))))
  ·refine OL (OL ?_)
   cases sE q
   refine AI rfl (E4 (iuR [0,0]) (R2 (AJ (R2 TV))))
  refine OL (OL ?_)
  obtain ⟨z22,hz22,q⟩:=bE q
  let e2:LE:=fun zz=>e0 ((10,.dat T0 (rd 0 a.1 0))::(11,.dat T0 (rd 0 a.1 1))::(12,.dat T0 (rd 0 g.1 1))::(13,P0 3 0)::zz)
  refine lJ hz22 (fun x=>⟨e2 [(96,.dat T0 (q5_14.2.2.length:Int)),(97,.dat T0 x.1)],h1 [(3,.cells [(.osl 4),(.osl 5)]),(4,.arr 3 T0 q5_14.2.1),(5,.arr 26 T0 x.2)],6⟩) (fun z=>[(3,⟨[(8,P0 0 0),(13,P0 1 0)],[(0,.cells [N0,N0]),(1,.cells [(.osl 2),(.osl 3)]),(2,.arr 3 T0 q5_14.2.1),(3,.arr 26 T0 z)],4⟩)]) (E4 (iuR [1,2,3,7,5,6]) (R8 (AI (R4 TV) (R6 TV)))) (fun m=>An (fun v97=>fun l5 z q=>?_)) ?_
  ·have q:f152_l8 g a step wid q5_14 _ v97 l5=some z:=q
   unfold f152_l8 at q
   refine OL (OL (cI q (fun q=>?_) (fun q=>?_)))
   ·refine OL (OL (OL (EI (tU 0 16 .done) (EI [] (EI [] (AI rfl (gI q (fun q=>?_))))))))
    refine gI q (fun q=>?_)
    refine gI q (fun q=>?_)
    refine gI q (fun q=>?_)
    refine OL (OL (OL ?_))
    obtain ⟨z23,h,q⟩:=bE q
    refine lJ h (fun x=>⟨e2 [(15,.dat T0 v97),(16,.dat T0 (i64.wrap (Int.tdiv v97 (i64.wrap ((rd 0 a.1 0)*wid))))),(17,.dat T0 (Int.tmod (i64.wrap (Int.tdiv v97 wid)) (rd 0 a.1 0))),(18,.dat T0 (Int.tmod v97 wid)),(19,P0 4 0),(96,.dat T0 (q5_14.2.2.length:Int)),(97,.dat T0 v97),(113,.dat T0 (rd 0 g.1 1)),(114,.dat T0 x.1)],h1 [(3,.cells [(.osl 5),(.osl 6)]),(4,.cells [(.d T0 x.2.1),(.d T0 x.2.2.1),(.d T9 x.2.2.2)]),(5,.arr 3 T0 q5_14.2.1),(6,.arr 26 T0 l5)],7⟩) (fun z=>[(5,⟨e2 [(15,.dat T0 v97),(19,P0 4 0),(96,.dat T0 (q5_14.2.2.length:Int)),(97,.dat T0 v97)],h1 [(3,.cells [(.osl 5),(.osl 6)]),(4,.cells [(.d T0 z.1),(.d T0 z.2.1),(.d T9 z.2.2)]),(5,.arr 3 T0 q5_14.2.1),(6,.arr 26 T0 l5)],7⟩)]) (E4 (iuR [1,2,3,4,7,5,6]) (R14 (AI (R5 TV) (R7 TV)))) (fun m=>An (fun v114=>An (fun c4_0=>An (fun c4_1=>fun c4_2 z q=>?_)))) ?_
    ·have q:f152_l9 g a step wid v97 _ v114 c4_0 c4_1 c4_2=some z:=q
     unfold f152_l9 at q
     refine OL (OL (cI q (fun q=>?_) (fun q=>?_)))
     ·refine OL (OL (EI (tU 0 22 (.alt 22 .done .done)) (EI [] (EI [] (AI rfl (gI q (fun q=>?_)))))))
      refine gI q (fun q=>?_)
      refine AI TV ?_
      obtain ⟨q17_22,h,q⟩:=bE q
      refine OL (cB H192 (c4_0,c4_1,c4_2,(rd 0 g.2 (i64.wrap ((i64.wrap ((i64.wrap (Int.tdiv v97 (i64.wrap ((rd 0 a.1 0)*wid))))*(rd 0 g.1 1)))+v114))),(rd 0 a.2 (i64.wrap ((i64.wrap ((i64.wrap ((Int.tmod (i64.wrap (Int.tdiv v97 wid)) (rd 0 a.1 0))*(rd 0 a.1 1)))+(i64.wrap (v114*step))))+(Int.tmod v97 wid))))) (iuR [5]) false h rfl (R2 (AI NH (R2 (AJ (AJ (EI ((i64.wrap (v114+1)),q17_22.1,q17_22.2.1,q17_22.2.2) (AI q (E4 I7 (R14 (AI (R5 TV) (R7 TV))))))))))))
     cases sE q
     refine E4 I7 (R9 (AI (R5 TV) (R7 TV)))
    refine AI (EI (tU 0 3 (.alt 3 (.take 4 (.alt 5 .done .done)) .done)) (EI [] (EI [] (AI rfl (AI TV ?_))))) TV
    obtain ⟨q19_3,h,q⟩:=bE q
    refine OL (cB H193 (z23.1,z23.2.1,z23.2.2,(32:Int)) (iuR [5]) false h rfl (AI rfl (AI NH (R2 (AJ (AJ (gI q (fun q=>?_))))))))
    refine AI TV (OL (EI ((i64.wrap (v97+1)),(List.set l5 (Int.toNat v97) q19_3.1)) (AI q (E4 (iuR [1,2,3,4,6,7]) (R8 (AI (R4 TV) (R6 TV)))))))
   cases sE q
   refine E4 (iuR [3,4,5,6]) (AI rfl (AI (R2 TV) (R4 TV)))
  refine AI (OL (OL ?_)) TV
  cases sE q
  refine AI rfl (E4 (iuR [3,4]) (R2 (AJ (R2 TV))))
 dsimp only [Ak] at q
 refine AI ?_ TV
 cases sE q
 refine AI rfl (E4 (iuR [0,0]) (R2 (AJ (R2 TV))))
theorem H152:HI C152 152:=hI Tryz.f152 rfl fun x=>V152 x.1 x.2.1 x.2.2.1 x.2.2.2
def f122 (n:ND) (a b g:Al):Option Bl:=
 bif (n.1==2) then
 Ac (f141 (g.1,g.2) b.1) fun q13_12=>
 some (q13_12.1,q13_12.2.1,q13_12.2.2)
 else
 bif (n.1==3) then
 Ac (f144 (g.1,g.2) (-4294967296:Int)) fun r1=>
 Ac (f143 (r1.2.1,r1.2.2) r1.1 b.1) fun r2=>
 some (r2.1,r2.2.1,r2.2.2)
 else
 bif (n.1==4) then
 Ac (f142 (g.1,g.2) (a.1,a.2)) fun r3=>
 Ac (f143 (r3.2.1,r3.2.2) r3.1 b.1) fun r4=>
 some (r4.1,r4.2.1,r4.2.2)
 else
 bif (n.1==6) then
 Ac (f145 (a.1,a.2) (g.1,g.2) true) fun r5=>
 some (r5.1,r5.2.1,r5.2.2)
 else
 bif (n.1==12) then
 Ad (0≤(2:Int)∧2<(b.1.length:Int))<|
 Ac (f152 (g.1,g.2) (a.1,a.2) n.2.2.2.1 (rd 0 b.1 2)) fun q13_8=>
 some (q13_8.1,q13_8.2.1,q13_8.2.2)
 else
 some ((0:Int),[],[])
def C122:Con:=⟨(ND)×Al×Al×Al,Bl,0,fun x=>[.dat T7 x.1,.dat T8 x.2.1,.dat T8 x.2.2.1,.dat T8 x.2.2.2],NX,fun x=>f122 x.1 x.2.1 x.2.2.1 x.2.2.2,fun y=>[.raw true [(.osl 0),(.osl 1)],.dat T0 y.1],fun y=>[(0,.arr 3 T0 y.2.1),(1,.arr 26 T0 y.2.2)],2⟩
theorem V122 n a b g y (q:f122 n a b g=some y):VC Tryz.f122 C122 (n,a,b,g) y:=by
 unfold f122 at q
 refine OL (OL (OL (OL (cI q (fun q=>?_) (fun q=>?_)))))
 ·refine OL ?_
  obtain ⟨q13_12,h,q⟩:=bE q
  refine OL (cA H141 ((g.1,g.2),b.1) h rfl (R3 (K0 (OL ?_))))
  cases sE q
  refine AI rfl (E4 (iuR [6,7]) (R2 (AJ (R2 TV))))
 refine OL (cI q (fun q=>?_) (fun q=>?_))
 ·refine OL ?_
  obtain ⟨r1,hr1,q⟩:=bE q
  have hr1:C144.F ((g.1,g.2),(-4294967296:Int))=some r1:=hr1
  refine OL (cA H144 _ hr1 rfl (R3 (K0 (OL (OL ?_)))))
  obtain ⟨r2,h,q⟩:=bE q
  refine OL (cD H143 ((r1.2.1,r1.2.2),r1.1,b.1) h rfl (R4 (AI (fun _=>rfl) (R2 (AI TV (AI TV (OL ?_)))))))
  cases sE q
  refine AI rfl (E4 (iuR [9,10]) (R2 (AJ (R2 TV))))
 refine OL (cI q (fun q=>?_) (fun q=>?_))
 ·refine OL ?_
  obtain ⟨r3,h,q⟩:=bE q
  refine OL (cA H142 ((g.1,g.2),(a.1,a.2)) h rfl (R4 (K0 (OL (OL ?_)))))
  obtain ⟨r4,h,q⟩:=bE q
  refine OL (cD H143 ((r3.2.1,r3.2.2),r3.1,b.1) h rfl (R4 (AI (fun _=>rfl) (R2 (AI TV (AI TV (OL ?_)))))))
  cases sE q
  refine AI rfl (E4 (iuR [9,10]) (R2 (AJ (R2 TV))))
 refine OL (cI q (fun q=>?_) (fun q=>?_))
 ·refine OL ?_
  obtain ⟨r5,h,q⟩:=bE q
  refine OL (cA H145 ((a.1,a.2),(g.1,g.2),true) h rfl (R5 (K0 (OL ?_))))
  cases sE q
  refine AI rfl (E4 (iuR [6,7]) (R2 (AJ (R2 TV))))
 refine OL (cI q (fun q=>?_) (fun q=>?_))
 ·refine OL (EI (tU 0 8 (.alt 8 (.take 9 (.take 10 (.alt 11 (.take 12 .done) .done))) .done)) (EI [] (EI [] (AI rfl (gI q (fun q=>?_))))))
  refine AI TV ?_
  obtain ⟨q13_8,h,q⟩:=bE q
  refine OL (cA H152 ((g.1,g.2),(a.1,a.2),n.2.2.2.1,(rd 0 b.1 2)) h rfl (R6 (K0 (AI TV (OL ?_)))))
  cases sE q
  refine AI rfl (E4 (iuR [6,7]) (R2 (AJ (R2 TV))))
 refine OL (OL ?_)
 cases sE q
 refine AI rfl (E4 (iuR [0,0]) (R2 (AJ (R2 TV))))
theorem H122:HI C122 122:=hI Tryz.f122 rfl fun x=>V122 x.1 x.2.1 x.2.2.1 x.2.2.2
def f77_j3 (g:Al) (q12_4:PTz20):Option Bool:=
 bif (!q12_4.2.2.2.2.1) then
 some true
 else
 Ac (f119 (g.1,g.2)) fun r10=>
 bif (!r10) then
 some true
 else
 Ac (f120 g.1 q12_4.2.2.2.2.2.1) fun r11=>
 some (!r11)
def f77_j2 (g:Al) (q12_4:PTz20):Option (Sum Unit Unit):=
 Ac (f77_j3 g q12_4) fun z9=>
 bif z9 then
 some (Sum.inr ())
 else
 some (Sum.inl ())
def f77 (t_l:NL) (n:Int) (g:Al):Option (Int×LI×LI×LI×LI×NL):=
 Ac (f76 t_l n) fun q12_4=>
 Ac (f77_j2 g q12_4) fun z6=>
 Ak z6 (fun z6a=>
 Ac (f46 q12_4.2.2.2.2.2.2.2 q12_4.2.1) fun r12=>
 Ac (f46 r12.2.2.2 q12_4.2.2.1) fun r13=>
 Ac (f121 (q12_4.1,q12_4.2.1,q12_4.2.2.1,q12_4.2.2.2.1,q12_4.2.2.2.2.2.1,q12_4.2.2.2.2.2.2.1) (r12.2.1,r12.2.2.1) (r13.2.1,r13.2.2.1) (g.1,g.2)) fun r14=>
 bif (r14.1 != 0) then
 some (r14.1,[],[],[],[],r13.2.2.2)
 else
 Ac (f122 (q12_4.1,q12_4.2.1,q12_4.2.2.1,q12_4.2.2.2.1,q12_4.2.2.2.2.2.1,q12_4.2.2.2.2.2.2.1) (r12.2.1,r12.2.2.1) (r13.2.1,r13.2.2.1) (g.1,g.2)) fun r15=>
 bif (r15.1 != 0) then
 some (r15.1,[],[],[],[],r13.2.2.2)
 else
 some ((0:Int),r14.2.1,r14.2.2,r15.2.1,r15.2.2,r13.2.2.2)) (fun z6b=>
 some ((1:Int),[],[],[],[],q12_4.2.2.2.2.2.2.2))
def C77:Con:=⟨NL×Bl,Int×LI×LI×LI×LI×NL,2,fun x=>[P0 0 0,.dat T0 x.2.1,.dat T8 x.2.2],fun x=>[(0,.cells [(.osl 1)]),(1,.arr 156 T7 x.1)],fun x=>f77 x.1 x.2.1 x.2.2,fun y=>[.raw true [(.osl 2),(.osl 3)],.raw true [(.osl 4),(.osl 5)],.dat T0 y.1],fun y=>[(0,.cells [(.osl 1)]),(1,.arr 156 T7 y.2.2.2.2.2),(2,.arr 3 T0 y.2.1),(3,.arr 26 T0 y.2.2.1),(4,.arr 3 T0 y.2.2.2.1),(5,.arr 26 T0 y.2.2.2.2.1)],6⟩
theorem V77 t_l n g y (q:f77 t_l n g=some y):VE Tryz.f77 2 C77 (t_l,n,g) y:=by
 unfold f77 at q
 refine OL (OL ?_)
 obtain ⟨q12_4,h,q⟩:=bE q
 refine OL (cB H76 (t_l,n) I2 false h rfl (AI rfl (AI NH (R2 (AJ (AI (R2 TV) (OL ?_)))))))
 obtain ⟨z6,hz6,q⟩:=bE q
 let h0:LH:=fun zz=>(0,.cells [(.osl 1)])::(1,.arr 156 T7 q12_4.2.2.2.2.2.2.2)::zz
 let h1:LH:=fun zz=>h0 ((2,.cells [(.d T5 g.1),(.d T5 g.2)])::(3,.cells [N0,N0])::(4,.cells [N0,N0])::(5,.cells [(.d T0 q12_4.1),(.d T0 q12_4.2.1),(.d T0 q12_4.2.2.1),(.d T0 q12_4.2.2.2.1),(.osl 6),(.osl 7)])::(6,.arr 3 T0 q12_4.2.2.2.2.2.1)::(7,.arr 26 T0 q12_4.2.2.2.2.2.2.1)::zz)
 refine OQ ⟨Sum.elim (fun z6a=>[(0,⟨[(0,P0 0 0),(5,P0 2 0),(6,P0 3 0),(7,P0 4 0),(9,P0 5 0)],h1 [],8⟩)]) (fun z6b=>[(1,⟨[(6,P0 2 0),(7,P0 3 0),(8,D0 1)],h0 [(2,.cells [N0,N0]),(3,.cells [N0,N0])],4⟩)]) z6,?_,?_⟩
 ·have q:=hz6
  clear hz6
  unfold f77_j2 at q
  obtain ⟨z9,hz9,q⟩:=bE q
  refine OQ ⟨[(0,⟨[(0,P0 0 0),(5,P0 2 0),(6,P0 3 0),(7,P0 4 0),(9,P0 5 0),(39,.dat .bool z9)],h1 [],8⟩)],?_,?_⟩
  ·have q:=hz9
   clear hz9
   unfold f77_j3 at q
   refine cN q (fun q=>?_) (fun q=>?_)
   ·refine gY ?_
    obtain ⟨r10,h,q⟩:=bE q
    refine OL (cA H119 (g.1,g.2) h rfl (R2 (K0 (gY (cF (cN q (fun q=>?_) (fun q=>?_)))))))
    ·refine gY (gY (gY (gY (gY ?_))))
     obtain ⟨r11,h,q⟩:=bE q
     refine OL (cD H120 (g.1,q12_4.2.2.2.2.2.1) h rfl (R2 (AI (fun _=>rfl) (R2 (AI TV (AI TV (gY (cF ?_))))))))
     cases sE q
     refine E4 (iuR [1,2,3,4,5,10,8,9]) (R2 (AI (R5 TV) (R8 TV)))
    refine gN (gN (gN (gN (gN (gN (cT ?_))))))
    cases sE q
    refine E4 (iuR [1,2,3,4,5,10,8,9]) (R2 (AI (R5 TV) (R8 TV)))
   refine gN (gN (cT (gN (gN (gN (gN (gN (gN (gN (cT ?_))))))))))
   cases sE q
   refine E4 (iuR [1,2,3,4,5,10,8,9]) (R2 (AI (R5 TV) (R8 TV)))
  refine AI (cI q (fun q=>?_) (fun q=>?_)) TV
  ·refine OL (OL (OL ?_))
   cases sE q
   refine E4 (iuR [1,2,4,5]) (R2 (AI (R2 TV) (R4 TV)))
  cases sE q
  refine E4 I8 (AI rfl (AI (R5 TV) (R8 TV)))
 rcases z6 with z6a | z6b
 ·dsimp only [Ak] at q
  refine AI (OL ?_) TV
  obtain ⟨r12,h,q⟩:=bE q
  refine OL (cB H46 (q12_4.2.2.2.2.2.2.2,q12_4.2.1) I2 false h rfl (AI rfl (AI NH (R2 (AJ (AI (R2 TV) (OL (OL ?_))))))))
  obtain ⟨r13,h,q⟩:=bE q
  refine OL (cB H46 (r12.2.2.2,q12_4.2.2.1) I2 false h rfl (AI rfl (AI NH (R2 (AJ (AI (R2 TV) (OL (OL ?_))))))))
  obtain ⟨r14,h,q⟩:=bE q
  refine OL (cD H121 ((q12_4.1,q12_4.2.1,q12_4.2.2.1,q12_4.2.2.2.1,q12_4.2.2.2.2.2.1,q12_4.2.2.2.2.2.2.1),(r12.2.1,r12.2.2.1),(r13.2.1,r13.2.2.1),(g.1,g.2)) h rfl (R8 (AI (fun _=>rfl) (R2 (AI TV (AI TV (OL (OL (OL (cI q (fun q=>?_) (fun q=>?_)))))))))))
  ·refine OL (OL (OL ?_))
   cases sE q
   refine AI rfl (E4 (iuR [1,2,0,0,0,0]) (R2 (AI (R2 TV) (R6 TV))))
  refine OL ?_
  obtain ⟨r15,h,q⟩:=bE q
  refine OL (cD H122 ((q12_4.1,q12_4.2.1,q12_4.2.2.1,q12_4.2.2.2.1,q12_4.2.2.2.2.2.1,q12_4.2.2.2.2.2.2.1),(r12.2.1,r12.2.2.1),(r13.2.1,r13.2.2.1),(g.1,g.2)) h rfl (R8 (AI (fun _=>rfl) (R2 (AI TV (AI TV (OL (OL (OL (cI q (fun q=>?_) (fun q=>?_)))))))))))
  ·refine OL (OL (OL ?_))
   cases sE q
   refine AI rfl (E4 (iuR [1,2,0,0,0,0]) (R2 (AI (R2 TV) (R6 TV))))
  refine OL (EI (.take 0 (.take 1 (.alt 2 (.alt 3 (.take 4 .done) .done) .done))) (EI [] (EI [] (AI rfl (AI TV (OL (AI TV (OL ?_))))))))
  cases sE q
  refine AI rfl (E4 (iuR [1,2,19,20,22,23]) (R2 (AI (R2 TV) (R6 TV))))
 dsimp only [Ak] at q
 refine AI ?_ TV
 cases sE q
 refine AI rfl (E4 (iuR [1,2,0,0,0,0]) (R2 (AI (R2 TV) (R6 TV))))
theorem H77:HI C77 77:=hI Tryz.f77 rfl fun x=>V77 x.1 x.2.1 x.2.2
def f78 (s_l:LTz3) (s_given:List Bool) (n:Int) (g:Al):Option (Int×LTz3×(List Bool)):=
 bif (decide (n<0)) then
 some ((0:Int),s_l,s_given)
 else
 Ad (0≤n∧n<s_l.length)<|
 Ac (f123 ((rd (Ty.z T8) s_l n).1,(rd (Ty.z T8) s_l n).2) (g.1,g.2)) fun q4_13=>
 Ad (0≤n∧n<s_l.length)<|
 Ad (0≤n∧n<s_given.length)<|
 some (q4_13.1,(List.set s_l (Int.toNat n) (q4_13.2.1,q4_13.2.2)),(List.set s_given (Int.toNat n) true))
def C78:Con:=⟨LTz3×(List Bool)×Bl,Int×LTz3×(List Bool),3,fun x=>[P0 0 0,.dat T0 x.2.2.1,.dat T8 x.2.2.2],fun x=>[(0,.cells [(.osl 1),(.osl 2)]),(1,.arr 112 T8 x.1),(2,.arr 4 .bool x.2.1)],fun x=>f78 x.1 x.2.1 x.2.2.1 x.2.2.2,fun y=>[.dat T0 y.1],fun y=>[(0,.cells [(.osl 1),(.osl 2)]),(1,.arr 112 T8 y.2.1),(2,.arr 4 .bool y.2.2)],3⟩
theorem V78 s_l s_given n g y (q:f78 s_l s_given n g=some y):VE Tryz.f78 3 C78 (s_l,s_given,n,g) y:=by
 unfold f78 at q
 refine OL (OL (OL (cI q (fun q=>?_) (fun q=>?_))))
 ·cases sE q
  refine OL (AI rfl (E4 I3 (R2 (AI TV (R3 TV)))))
 refine OL (OL (EI (tU 0 13 (.alt 13 (tU 14 4 (.alt 18 (.take 19 .done) .done)) .done)) (EI [(18,[1])] (EI [] (AI rfl (gI q (fun q=>?_)))))))
 refine AI TV ?_
 obtain ⟨q4_13,h,q⟩:=bE q
 refine OL (cA H123 (((rd (Ty.z T8) s_l n).1,(rd (Ty.z T8) s_l n).2),(g.1,g.2)) h rfl (R4 (K0 (gI q (fun q=>?_)))))
 refine AI TV (OL (OL (gI q (fun q=>?_))))
 refine OL (OL ?_)
 cases sE q
 refine AI rfl (E4 I3 (R2 (AI TV (R3 TV))))
theorem H78:HI C78 78:=hI Tryz.f78 rfl fun x=>V78 x.1 x.2.1 x.2.2.1 x.2.2.2
def f45_l1 (root:Int) (go:(Int×NL×LTz3×Bl)→Option (NL×LTz3×Bl)) (v43:Int) (l1:NL) (l3:LTz3) (i3:Int) (l5 l6:LI):Option (NL×LTz3×Bl):=
 bif (decide (v43<(i64.wrap (root+1)))) then
 Ac (f46 l1 v43) fun q12_10=>
 Ac (f75 q12_10.2.1 (0:Int)) fun r6=>
 Ad ((List.length (List.set l3 (Int.toNat i3) (l5,l6))+1)*48≤140737488355328)<|
 go ((i64.wrap (v43+1)),q12_10.2.2.2,((List.set l3 (Int.toNat i3) (l5,l6))++[(Ty.z T8)]),(List.length (List.set l3 (Int.toNat i3) (l5,l6)):Int),r6.2.1,r6.2.2)
 else
 some (l1,l3,i3,l5,l6)
def f45_l2 (go:(Int×NL×LTz3×(List Bool))→Option (Sum (Int×NL) (LTz3×(List Bool)×NL))) (n:Int) (l1:NL) (l3:LTz3) (l4:List Bool):Option (Sum (Int×NL) (LTz3×(List Bool)×NL)):=
 bif (decide (n≥0)) then
 Ad (0≤n∧n<l4.length)<|
 bif (!(rd false l4 n)) then
 go ((i64.wrap (n-1)),l1,l3,l4)
 else
 Ac (f76 l1 n) fun r15=>
 Ad (0≤n∧n<l3.length)<|
 Ac (f77 r15.2.2.2.2.2.2.2 n ((rd (Ty.z T8) l3 n).1,(rd (Ty.z T8) l3 n).2)) fun r16=>
 bif (r16.1 != 0) then
 some (Sum.inl (r16.1,r16.2.2.2.2.2))
 else
 Ac (f78 l3 l4 r15.2.1 (r16.2.1,r16.2.2.1)) fun r17=>
 bif (r17.1 != 0) then
 some (Sum.inl (r17.1,r16.2.2.2.2.2))
 else
 Ac (f78 r17.2.1 r17.2.2 r15.2.2.1 (r16.2.2.2.1,r16.2.2.2.2.1)) fun r18=>
 bif (r18.1 != 0) then
 some (Sum.inl (r18.1,r16.2.2.2.2.2))
 else
 go ((i64.wrap (n-1)),r16.2.2.2.2.2,r18.2.1,r18.2.2)
 else
 some (Sum.inr (l3,l4,l1))
def f45 (t_l:NL) (root:Int):Option (Int×LTz3×NL):=
 Ac (f46 t_l root) fun r1=>
 bif (!r1.1) then
 some ((1:Int),[],r1.2.2.2)
 else
 bif (decide ((r1.2.2.1.length:Int)>1)) then
 some ((4:Int),[],r1.2.2.2)
 else
 Ad (0≤(i64.wrap (root+1))∧(i64.wrap (root+1))≤(i64.wrap (root+1))∧Int.toNat (i64.wrap (root+1))*1≤140737488355328)<|
 Ac (Ag (fun go x=>f45_l1 root go x.1 x.2.1 x.2.2.1 x.2.2.2.1 x.2.2.2.2.1 x.2.2.2.2.2) Ah ((0:Int),r1.2.2.2,[],(0:Int),[],[])) fun z5=>
 Ad (0≤root∧root<z5.2.1.length)<|
 Ad (root=z5.2.2.1)<|
 Ad (0≤(0:Int)∧0<(z5.2.2.2.2.length:Int))<|
 Ad (0≤root∧root<(List.length (List.replicate (Int.toNat (i64.wrap (root+1))) false):Int))<|
 Ac (Ag (fun go x=>f45_l2 go x.1 x.2.1 x.2.2.1 x.2.2.2) Ah (root,z5.1,(List.set z5.2.1 (Int.toNat z5.2.2.1) (z5.2.2.2.1,(List.set z5.2.2.2.2 (Int.toNat (0:Int)) (4294967296:Int)))),(List.set (List.replicate (Int.toNat (i64.wrap (root+1))) false) (Int.toNat root) true))) fun z14=>
 Ak z14 (fun z14a=>
 some (z14a.1,[],z14a.2)) (fun z14b=>
 some ((0:Int),z14b.1,z14b.2.2))
def C45:Con:=⟨NL×Int,Int×LTz3×NL,2,fun x=>[P0 0 0,.dat T0 x.2],fun x=>[(0,.cells [(.osl 1)]),(1,.arr 156 T7 x.1)],fun x=>f45 x.1 x.2,fun y=>[O0 2,.dat T0 y.1],fun y=>[(0,.cells [(.osl 1)]),(1,.arr 156 T7 y.2.2),(2,.arr 112 T8 y.2.1)],3⟩
theorem V45 t_l root y (q:f45 t_l root=some y):VE Tryz.f45 2 C45 (t_l,root) y:=by
 unfold f45 at q
 refine OL (OL ?_)
 obtain ⟨r1,h,q⟩:=bE q
 refine OL (cB H46 (t_l,root) I2 false h rfl (AI rfl (AI NH (R2 (AJ (AI (R2 TV) (OL (OL (OL (cI q (fun q=>?_) (fun q=>?_)))))))))))
 ·cases sE q
  refine OL (AI rfl (E4 (iuR [1,2,0]) (R2 (AJ (R3 TV)))))
 refine OL (cI q (fun q=>?_) (fun q=>?_))
 ·cases sE q
  refine OL (AI rfl (E4 (iuR [1,2,0]) (R2 (AJ (R3 TV)))))
 refine OL (gI q (fun q=>?_))
 refine OL (OL ?_)
 obtain ⟨z5,hz5,q⟩:=bE q
 let h0:LH:=fun zz=>(0,.cells [(.osl 1)])::zz
 refine lJ hz5 (fun x=>⟨[(0,P0 0 0),(1,.dat T0 root),(8,P0 2 0),(42,.dat T0 (i64.wrap (root+1))),(43,.dat T0 x.1)],h0 [(1,.arr 156 T7 x.2.1),(2,.cells [(.osl 3),(.osl 4)]),(3,.hol 112 T8 x.2.2.1 x.2.2.2.1 [(.osl 5),(.osl 6)]),(4,.arr 4 .bool (List.replicate (Int.toNat (i64.wrap (root+1))) false)),(5,.arr 3 T0 x.2.2.2.2.1),(6,.arr 26 T0 x.2.2.2.2.2)],7⟩) (fun z=>[(3,⟨[(0,P0 0 0),(1,.dat T0 root),(8,P0 2 0)],h0 [(1,.arr 156 T7 z.1),(2,.cells [(.osl 3),(.osl 4)]),(3,.hol 112 T8 z.2.1 z.2.2.1 [(.osl 5),(.osl 6)]),(4,.arr 4 .bool (List.replicate (Int.toNat (i64.wrap (root+1))) false)),(5,.arr 3 T0 z.2.2.2.1),(6,.arr 26 T0 z.2.2.2.2)],7⟩)]) (E4 (iuR [1,2,9,0,8,0,0]) (R4 (AI (R2 TV) (R7 TV)))) (fun m=>An (fun v43=>An (fun l1=>An (fun l3=>An (fun i3=>An (fun l5=>fun l6 z q=>?_)))))) ?_
 ·have q:f45_l1 root _ v43 l1 l3 i3 l5 l6=some z:=q
  unfold f45_l1 at q
  refine OL (OL (cI q (fun q=>?_) (fun q=>?_)))
  ·refine OL (OL (OL ?_))
   obtain ⟨q12_10,h,q⟩:=bE q
   refine OL (cB H46 (l1,v43) I2 false h rfl (AI rfl (AI NH (R2 (AJ (AI (R2 TV) (OL (OL ?_))))))))
   obtain ⟨r6,h,q⟩:=bE q
   refine OL (cD H75 (q12_10.2.1,(0:Int)) h rfl (R2 (AI (fun _=>rfl) (R2 (AI TV (AI TV (OL (EI (tU 0 6 (.alt 6 (.alt 7 (.take 8 (.take 9 (.alt 10 .done .done))) .done) .done)) (EI [(10,[2])] (EI [] (AI rfl (AI TV (OQ (AI TV (OQ (AI rfl (AI (AI rfl rfl) (gI q (fun q=>?_)))))))))))))))))))
   refine AI TV (OL (EI ((i64.wrap (v43+1)),q12_10.2.2.2,((List.set l3 (Int.toNat i3) (l5,l6))++[(Ty.z T8)]),(List.length (List.set l3 (Int.toNat i3) (l5,l6)):Int),r6.2.1,r6.2.2) (AI q (E4 (iuR [1,2,3,17,5,13,14]) (R4 (AI (R2 TV) (R7 TV)))))))
  cases sE q
  refine E4 I7 (R2 (AI (R2 TV) (R7 TV)))
 refine AI (OL (EI (tU 0 14 (.alt 14 (.take 15 (.alt 16 .done .done)) .done)) (EI [] (EI [] (AI rfl (gI q (fun q=>?_))))))) TV
 refine gI q (fun q=>?_)
 refine gI q (fun q=>?_)
 refine AI TV (OL (gI q (fun q=>?_)))
 refine AI TV (OL (OL (OL ?_)))
 obtain ⟨z14,h,q⟩:=bE q
 refine lJ h (fun x=>⟨[(0,P0 0 0),(8,P0 2 0),(14,.dat T0 x.1)],h0 [(1,.arr 156 T7 x.2.1),(2,.cells [(.osl 3),(.osl 4)]),(3,.arr 112 T8 x.2.2.1),(4,.arr 4 .bool x.2.2.2)],5⟩) (fun z=>Sum.elim (fun za=>[(1,⟨[(4,.raw false [N0]),(5,.dat T0 za.1)],h0 [(1,.arr 156 T7 za.2)],2⟩)]) (fun zb=>[(5,⟨[(8,P0 2 0)],h0 [(1,.arr 156 T7 zb.2.2),(2,.cells [(.osl 3),(.osl 4)]),(3,.arr 112 T8 zb.1),(4,.arr 4 .bool zb.2.1)],5⟩)]) z) (EI [3] (AI rfl (EI [] (EI [] (EI [] (EI I5 (R2 (AI (R2 TV) (R5 TV))))))))) (fun m=>An (fun n=>An (fun l1=>An (fun l3=>fun l4 z q=>?_)))) ?_
 ·have q:f45_l2 _ n l1 l3 l4=some z:=q
  unfold f45_l2 at q
  refine OL (OL (cI q (fun q=>?_) (fun q=>?_)))
  ·refine OL (OL (OL (gI q (fun q=>?_))))
   refine cI q (fun q=>?_) (fun q=>?_)
   ·refine EI ((i64.wrap (n-1)),l1,l3,l4) (AI q (E4 I5 (R2 (AI (R2 TV) (R5 TV)))))
   refine OL ?_
   obtain ⟨r15,h,q⟩:=bE q
   refine OL (cB H76 (l1,n) I2 false h rfl (AI rfl (AI NH (R2 (AJ (AI (R2 TV) (OL (OL (gI q (fun q=>?_))))))))))
   obtain ⟨r16,h,q⟩:=bE q
   refine OL (cB H77 (r15.2.2.2.2.2.2.2,n,((rd (Ty.z T8) l3 n).1,(rd (Ty.z T8) l3 n).2)) I2 false h rfl (R3 (AI NH (R2 (AJ (AI (R2 TV) (OL (OL (OL (OL (cI q (fun q=>?_) (fun q=>?_))))))))))))
   ·cases sE q
    refine OL (E4 I2 (R2 (AJ (R2 TV))))
   refine OL (OL ?_)
   obtain ⟨r17,h,q⟩:=bE q
   refine OL (cB H78 (l3,l4,r15.2.1,(r16.2.1,r16.2.2.1)) (iuR [3,4,5]) false h rfl (R3 (AI NH (R2 (AJ (AI (R3 TV) (OL (cI q (fun q=>?_) (fun q=>?_)))))))))
   ·cases sE q
    refine OL (E4 I2 (R2 (AJ (R2 TV))))
   refine OL ?_
   obtain ⟨r18,h,q⟩:=bE q
   refine OL (cB H78 (r17.2.1,r17.2.2,r15.2.2.1,(r16.2.2.2.1,r16.2.2.2.2.1)) (iuR [3,4,5]) false h rfl (R3 (AI NH (R2 (AJ (AI (R3 TV) (OL (cI q (fun q=>?_) (fun q=>?_)))))))))
   ·cases sE q
    refine OL (E4 I2 (R2 (AJ (R2 TV))))
   refine EI ((i64.wrap (n-1)),r16.2.2.2.2.2,r18.2.1,r18.2.2) (AI q (E4 I5 (R2 (AI (R2 TV) (R5 TV)))))
  cases sE q
  refine E4 I5 (AI rfl (AJ (R5 TV)))
 rcases z14 with z14a | z14b
 ·dsimp only [Ak] at q
  refine AI ?_ TV
  cases sE q
  refine AI rfl (E4 (iuR [1,2,0]) (R2 (AJ (R3 TV))))
 dsimp only [Ak] at q
 refine AI (OL ?_) TV
 cases sE q
 refine AI rfl (E4 (iuR [1,2,4]) (R2 (AJ (R3 TV))))
theorem H45:HI C45 45:=hI Tryz.f45 rfl fun x=>V45 x.1 x.2
def f29_j3 (kind:Int):Option Bool:=
 bif (decide (kind<1)) then
 some true
 else
 some (decide (kind>3))
def f29_j2 (kind:Int):Option (Sum Unit Unit):=
 Ac (f29_j3 kind) fun z3=>
 bif z3 then
 some (Sum.inr ())
 else
 some (Sum.inl ())
def f29_l4 (r4:PTz21) (r6:Int×LTz3×NL) (go:Bc→Option LI) (v64:Int) (l2:LI):Option LI:=
 bif (decide (v64<r4.2.2.1.length)) then
 Ad (0≤v64∧v64<r4.2.2.1.length)<|
 Ad (0≤(rd 0 r4.2.2.1 v64)∧(rd 0 r4.2.2.1 v64)<r6.2.1.length)<|
 Ad ((l2.length+List.length ((rd (Ty.z T8) r6.2.1 (rd 0 r4.2.2.1 v64)).2))*8≤140737488355328)<|
 go ((i64.wrap (v64+1)),(l2++((rd (Ty.z T8) r6.2.1 (rd 0 r4.2.2.1 v64)).2)))
 else
 some l2
def f29 (n:Az) (kind:Int) (p_:LI) (x_:LI×LI×Int):Option (Int×Bc):=
 Ac (f29_j2 kind) fun z2=>
 Ak z2 (fun z2a=>
 Ac (f42) fun q20_7=>
 Ac (f43 ([]) (n.1,n.2) p_ x_.1) fun r4=>
 bif (r4.2.1 != 0) then
 some ((0:Int),r4.2.1,[])
 else
 Ac (f44 r4.2.2.2 kind r4.1 (x_.1,x_.2.1,x_.2.2)) fun r5=>
 bif (r5.2.1 != 0) then
 some ((0:Int),r5.2.1,[])
 else
 Ac (f45 r5.2.2 r5.1) fun r6=>
 bif (r6.1 != 0) then
 some ((0:Int),r6.1,[])
 else
 Ac (Ag (fun go x=>f29_l4 r4 r6 go x.1 x.2) Ah ((0:Int),[])) fun z7=>
 Ac (f46 r6.2.2 r5.1) fun r8=>
 Ad (0≤(0:Int)∧0<(r8.2.2.1.length:Int))<|
 some ((rd 0 r8.2.2.1 0),(0:Int),z7)) (fun z2b=>
 some ((0:Int),(1:Int),[]))
def C29:Con:=⟨Az×Int×LI×(LI×LI×Int),Int×Bc,0,fun x=>[.dat T3 x.1,.dat T0 x.2.1,.dat T5 x.2.2.1,.dat T2 x.2.2.2],NX,fun x=>f29 x.1 x.2.1 x.2.2.1 x.2.2.2,fun y=>[O0 0,.dat T0 y.1,.dat T0 y.2.1],fun y=>[(0,.arr 26 T0 y.2.2)],1⟩
theorem V29 n kind p_ x_ y (q:f29 n kind p_ x_=some y):VC Tryz.f29 C29 (n,kind,p_,x_) y:=by
 unfold f29 at q
 refine OL ?_
 obtain ⟨z2,hz2,q⟩:=bE q
 let h0:LH:=fun zz=>(0,.cells [(.d T5 n.1),(.d T4 n.2)])::(1,.cells [(.d T5 x_.1),(.d T5 x_.2.1),(.d T0 x_.2.2)])::zz
 refine OQ ⟨Sum.elim (fun z2a=>[(0,⟨[(1,.dat T0 kind),(2,.dat T5 p_),(4,P0 0 0),(7,P0 1 0)],h0 [],2⟩)]) (fun z2b=>[(1,⟨[(8,.raw false [N0]),(9,D0 0),(10,D0 1)],[],0⟩)]) z2,?_,?_⟩
 ·have q:=hz2
  clear hz2
  unfold f29_j2 at q
  obtain ⟨z3,hz3,q⟩:=bE q
  refine OQ ⟨[(0,⟨[(1,.dat T0 kind),(2,.dat T5 p_),(4,P0 0 0),(7,P0 1 0),(27,.dat .bool z3)],h0 [],2⟩)],?_,?_⟩
  ·have q:=hz3
   clear hz3
   unfold f29_j3 at q
   refine cN q (fun q=>?_) (fun q=>?_)
   ·refine gY (cF ?_)
    cases sE q
    refine E4 I2 (R4 (AI (R2 TV) (R2 TV)))
   refine gN (cT ?_)
   cases sE q
   refine E4 I2 (R4 (AI (R2 TV) (R2 TV)))
  refine AI (cI q (fun q=>?_) (fun q=>?_)) TV
  ·cases sE q
   refine OL (E4 [] (R3 (AJ TV)))
  cases sE q
  refine E4 I2 (R3 (AI (R2 TV) (R2 TV)))
 rcases z2 with z2a | z2b
 ·dsimp only [Ak] at q
  refine AI (OL ?_) TV
  obtain ⟨q20_7,h,q⟩:=bE q
  refine OL (cA H42 () h rfl (K0 (OL ?_)))
  obtain ⟨r4,h,q⟩:=bE q
  refine OL (cB H43 ([],(n.1,n.2),p_,x_.1) (iuR [3,4]) false h rfl (R4 (AI NH (R2 (AJ (AI (R2 TV) (OL (OL (cI q (fun q=>?_) (fun q=>?_))))))))))
  ·cases sE q
   refine OL (AI rfl (E4 (iuR [0]) (R3 (AJ (AI rfl TV)))))
  refine OL ?_
  obtain ⟨r5,h,q⟩:=bE q
  refine OL (cB H44 (r4.2.2.2,kind,r4.1,(x_.1,x_.2.1,x_.2.2)) (iuR [3,8]) false h rfl (R4 (AI NH (R2 (AJ (AI (R2 TV) (OL (OL (cI q (fun q=>?_) (fun q=>?_))))))))))
  ·cases sE q
   refine OL (AI rfl (E4 (iuR [0]) (R3 (AJ (AI rfl TV)))))
  refine OL ?_
  obtain ⟨r6,h,q⟩:=bE q
  refine OL (cB H45 (r5.2.2,r5.1) (iuR [3,11]) false h rfl (AI rfl (AI NH (R2 (AJ (AI (R2 TV) (OL (OL (cI q (fun q=>?_) (fun q=>?_))))))))))
  ·cases sE q
   refine OL (AI rfl (E4 (iuR [0]) (R3 (AJ (AI rfl TV)))))
  refine OL (OL (OL ?_))
  obtain ⟨z7,h,q⟩:=bE q
  refine lJ h (fun x=>⟨[(11,P0 0 0),(15,.dat T0 r5.1),(16,O0 1),(17,O0 2),(62,O0 3),(63,.dat T0 (r4.2.2.1.length:Int)),(64,.dat T0 x.1)],[(0,.cells [(.osl 4)]),(1,.arr 112 T8 r6.2.1),(2,.arr 26 T0 x.2),(3,.arr 3 T0 r4.2.2.1),(4,.arr 156 T7 r6.2.2)],5⟩) (fun z=>[(2,⟨[(11,P0 0 0),(15,.dat T0 r5.1),(17,O0 1)],[(0,.cells [(.osl 2)]),(1,.arr 26 T0 z),(2,.arr 156 T7 r6.2.2)],3⟩)]) (E4 (iuR [3,14,0,7,11]) (R4 (AI (R4 TV) (R5 TV)))) (fun m=>An (fun v64=>fun l2 z q=>?_)) ?_
  ·have q:f29_l4 r4 r6 _ v64 l2=some z:=q
   unfold f29_l4 at q
   refine OL (OL (cI q (fun q=>?_) (fun q=>?_)))
   ·refine OL (OL (gI q (fun q=>?_)))
    refine gI q (fun q=>?_)
    refine OL (gI q (fun q=>?_))
    refine EI ((i64.wrap (v64+1)),(l2++((rd (Ty.z T8) r6.2.1 (rd 0 r4.2.2.1 v64)).2))) (AI q (E4 (iuR [1,2,6,4,5]) (R4 (AI (R4 TV) (R5 TV)))))
   cases sE q
   refine E4 (iuR [1,3,5]) (R2 (AI (R2 TV) (R3 TV)))
  refine AI (OL ?_) TV
  obtain ⟨r8,h,q⟩:=bE q
  refine OL (cB H46 (r6.2.2,r5.1) (iuR [1,3]) false h rfl (AI rfl (AI NH (R2 (AJ (AI (R2 TV) (OL (OL (EI (tU 0 8 .done) (EI [] (EI [] (AI rfl (gI q (fun q=>?_))))))))))))))
  cases sE q
  refine AI rfl (E4 (iuR [2]) (R3 (AJ (AI rfl TV))))
 dsimp only [Ak] at q
 refine AI ?_ TV
 cases sE q
 refine AI rfl (E4 (iuR [0]) (R3 (AJ (AI rfl TV))))
theorem H29:HI C29 29:=hI Tryz.f29 rfl fun x=>V29 x.1 x.2.1 x.2.2.1 x.2.2.2
def f17_j1 (j:PTz5) (r1:Ax):Option (Sum Unit Unit):=
 bif (decide (j.2.1<1)) then
 some (Sum.inr ())
 else
 bif (decide (j.2.1>3)) then
 some (Sum.inr ())
 else
 bif (decide ((j.2.2.2.2.1.length:Int)<1)) then
 some (Sum.inr ())
 else
 bif (decide ((j.2.2.2.2.1.length:Int)>256)) then
 some (Sum.inr ())
 else
 bif (decide (j.2.2.1<1)) then
 some (Sum.inr ())
 else
 bif (decide (j.2.2.1>j.2.2.2.2.1.length)) then
 some (Sum.inr ())
 else
 bif (decide (j.2.2.2.1.2.2<0)) then
 some (Sum.inr ())
 else
 bif ((j.2.2.2.2.2.length:Int) != r1.1) then
 some (Sum.inr ())
 else
 some (Sum.inl ())
def f17_l2 (j:PTz5) (go:Int→Option (Sum Int Unit)) (v68:Int):Option (Sum Int Unit):=
 bif (decide (v68<j.2.2.2.2.1.length)) then
 Ad (0≤v68∧v68<j.2.2.2.2.1.length)<|
 Ac (f29 (j.1.1,j.1.2) j.2.1 j.2.2.2.2.2 ((rd (Ty.z T2) j.2.2.2.2.1 v68).1,((rd (Ty.z T2) j.2.2.2.2.1 v68).2).1,((rd (Ty.z T2) j.2.2.2.2.1 v68).2).2)) fun r6=>
 bif (r6.2.1 != 0) then
 some (Sum.inl r6.2.1)
 else
 go (i64.wrap (v68+1))
 else
 some (Sum.inr ())
def f17 (j:PTz5):Option Int:=
 Ac (f28 (j.1.1,j.1.2)) fun r1=>
 bif (r1.2 != 0) then
 some r1.2
 else
 Ac (f17_j1 j r1) fun z2=>
 Ak z2 (fun z2a=>
 Ac (Ag (fun go x=>f17_l2 j go x) Ah (0:Int)) fun z5=>
 Ak z5 (fun z5a=>
 some z5a) (fun z5b=>
 some (0:Int))) (fun z2b=>
 some (1:Int))
def C17:Con:=⟨PTz5,Int,0,fun x=>[.dat T11 x],NX,fun x=>f17 x,fun y=>[.dat T0 y],NX,0⟩
theorem V17 j y (q:f17 j=some y):VC Tryz.f17 C17 j y:=by
 unfold f17 at q
 refine OL (OL ?_)
 obtain ⟨r1,h,q⟩:=bE q
 refine OL (cA H28 (j.1.1,j.1.2) h rfl (R2 (K0 (OL (OL (cI q (fun q=>?_) (fun q=>?_)))))))
 ·cases sE q
  refine OL (AI rfl (E4 [] (R2 (AI TV TV))))
 obtain ⟨z2,hz2,q⟩:=bE q
 let h0:LH:=fun zz=>(0,.cells [(.d T5 j.1.1),(.d T4 j.1.2),(.d T0 j.2.1),(.d T0 j.2.2.1),(.d T0 j.2.2.2.1.1),(.d T0 j.2.2.2.1.2.1),(.d T0 j.2.2.2.1.2.2),(.d T12 j.2.2.2.2.1),(.d T5 j.2.2.2.2.2)])::zz
 refine OQ ⟨Sum.elim (fun z2a=>[(0,⟨[(1,P0 0 0)],h0 [],1⟩)]) (fun z2b=>[(1,⟨[(2,D0 1)],[],0⟩)]) z2,?_,?_⟩
 ·have q:=hz2
  clear hz2
  unfold f17_j1 at q
  refine OL (cN q (fun q=>?_) (fun q=>?_))
  ·refine gY (gY (cF (cN q (fun q=>?_) (fun q=>?_))))
   ·refine gY (gY (gY (cF (cN q (fun q=>?_) (fun q=>?_)))))
    ·refine gY (gY (gY (cF (cN q (fun q=>?_) (fun q=>?_)))))
     ·refine gY (gY (cF (cN q (fun q=>?_) (fun q=>?_))))
      ·refine gY (gY (gY (gY (gY (cF (cN q (fun q=>?_) (fun q=>?_)))))))
       ·refine gY (gY (gY (cF (cN q (fun q=>?_) (fun q=>?_)))))
        ·refine gY (gY (gY (gY (cF (cI q (fun q=>?_) (fun q=>?_))))))
         ·cases sE q
          refine OL (E4 [] (R2 (AI TV TV)))
         cases sE q
         refine E4 (iuR [1]) (AI rfl (AJ (AI rfl TV)))
        refine gN (gN (gN (gN (cT (cT (OL ?_))))))
        cases sE q
        refine E4 [] (R2 (AI TV TV))
       refine gN (gN (gN (cT (gN (gN (gN (gN (gN (cT (cT (OL ?_)))))))))))
       cases sE q
       refine E4 [] (R2 (AI TV TV))
      refine gN (gN (gN (gN (gN (cT (gN (gN (gN (gN (cT (gN (gN (gN (gN (gN (cT (cT (OL ?_))))))))))))))))))
      cases sE q
      refine E4 [] (R2 (AI TV TV))
     refine gN (gN (cT (gN (gN (gN (gN (gN (gN (cT (gN (gN (gN (gN (cT (gN (gN (gN (gN (gN (cT (cT (OL ?_))))))))))))))))))))))
     cases sE q
     refine E4 [] (R2 (AI TV TV))
    refine gN (gN (gN (cT (gN (gN (gN (cT (gN (gN (gN (gN (gN (gN (cT (gN (gN (gN (gN (cT (gN (gN (gN (gN (gN (cT (cT (OL ?_)))))))))))))))))))))))))))
    cases sE q
    refine E4 [] (R2 (AI TV TV))
   refine gN (gN (gN (cT (gN (gN (gN (gN (cT (gN (gN (gN (cT (gN (gN (gN (gN (gN (gN (cT (gN (gN (gN (gN (cT (gN (gN (gN (gN (gN (cT (cT (OL ?_))))))))))))))))))))))))))))))))
   cases sE q
   refine E4 [] (R2 (AI TV TV))
  refine gN (gN (cT (gN (gN (gN (gN (cT (gN (gN (gN (gN (cT (gN (gN (gN (cT (gN (gN (gN (gN (gN (gN (cT (gN (gN (gN (gN (cT (gN (gN (gN (gN (gN (cT (cT (OL ?_))))))))))))))))))))))))))))))))))))
  cases sE q
  refine E4 [] (R2 (AI TV TV))
 rcases z2 with z2a | z2b
 ·dsimp only [Ak] at q
  refine AI (OL (OL ?_)) TV
  obtain ⟨z5,h,q⟩:=bE q
  refine lJ h (fun x=>⟨[(1,P0 0 0),(66,.dat T12 j.2.2.2.2.1),(67,.dat T0 (j.2.2.2.2.1.length:Int)),(68,.dat T0 x)],h0 [],1⟩) (fun z=>Sum.elim (fun za=>[(1,⟨[(2,.dat T0 za)],[],0⟩)]) (fun zb=>[(2,⟨[],[],0⟩)]) z) (E4 (iuR [1]) (R4 (AJ (AI rfl TV)))) (fun m=>fun v68 z q=>?_) ?_
  ·have q:f17_l2 j _ v68=some z:=q
   unfold f17_l2 at q
   refine OL (OL (cI q (fun q=>?_) (fun q=>?_)))
   ·refine OL (OL (gI q (fun q=>?_)))
    refine OL (OL ?_)
    obtain ⟨r6,h,q⟩:=bE q
    refine OL (cA H29 ((j.1.1,j.1.2),j.2.1,j.2.2.2.2.2,((rd (Ty.z T2) j.2.2.2.2.1 v68).1,((rd (Ty.z T2) j.2.2.2.2.1 v68).2).1,((rd (Ty.z T2) j.2.2.2.2.1 v68).2).2)) h rfl (R6 (K0 (OL (cI q (fun q=>?_) (fun q=>?_))))))
    ·cases sE q
     refine OL (E4 [] (R2 (AI TV TV)))
    refine EI (i64.wrap (v68+1)) (AI q (E4 (iuR [1]) (R4 (AJ (AI rfl TV)))))
   cases sE q
   refine E4 [] (AI rfl (AI TV TV))
  rcases z5 with z5a | z5b
  ·dsimp only [Ak] at q
   refine AI ?_ TV
   cases sE q
   refine AI rfl (E4 [] (R2 (AI TV TV)))
  dsimp only [Ak] at q
  refine AI (OL ?_) TV
  cases sE q
  refine AI rfl (E4 [] (R2 (AI TV TV)))
 dsimp only [Ak] at q
 refine AI ?_ TV
 cases sE q
 refine AI rfl (E4 [] (R2 (AI TV TV)))
theorem H17:HI C17 17:=hI Tryz.f17 rfl fun x=>V17 x
def f48 (s:LTz0):Option LTz0:=
 nilF s
 (some ([]))
 (Ad ((List.length ([]:LTz0)+s.length)*32≤140737488355328)<|
 some (([]:LTz0)++s))
def C48:Con:=⟨List PTz16,List PTz16,0,fun x=>[.dat T4 x],NX,fun x=>f48 x,fun y=>[O0 0],fun y=>[(0,.arr 79 T1 y)],1⟩
theorem V48 s y (q:f48 s=some y):VC Tryz.f48 C48 s y:=by
 unfold f48 at q
 refine OL (OL (OL (nilI q (fun q=>?_) (fun q=>?_))))
 ·refine cT (OL ?_)
  cases sE q
  refine AI rfl (E4 (iuR [0]) (AI rfl (AJ (AI rfl TV))))
 refine cF (OL (OL (OL (gI q (fun q=>?_)))))
 cases sE q
 refine AI rfl (E4 (iuR [2]) (AI rfl (AJ (AI rfl TV))))
theorem H48:HI C48 48:=hI Tryz.f48 rfl fun x=>V48 x
def f30 (n:Az):Option Az:=
 Ac (f47 n.1) fun q1_2=>
 Ac (f48 n.2) fun q1_5=>
 some (q1_2,q1_5)
def C30:Con:=⟨Az,Az,0,fun x=>[.dat T3 x],NX,fun x=>f30 x,fun y=>[.raw true [(.osl 0),(.osl 1)]],fun y=>[(0,.arr 3 T0 y.1),(1,.arr 79 T1 y.2)],2⟩
theorem V30 n y (q:f30 n=some y):VC Tryz.f30 C30 n y:=by
 unfold f30 at q
 refine OL (OL (EI (.take 0 (.take 1 (.take 3 (.take 4 (.alt 2 (.alt 5 (.take 6 (.alt 7 .done .done)) .done) .done))))) (EI [] (EI [] (AI rfl (AI TV ?_))))))
 obtain ⟨q1_2,h,q⟩:=bE q
 refine OL (cA H47 n.1 h rfl (AI rfl (K0 (AI TV ?_))))
 obtain ⟨q1_5,h,q⟩:=bE q
 refine OL (cA H48 n.2 h rfl (AI rfl (K0 (AI TV (OL ?_)))))
 cases sE q
 refine AI rfl (E4 (iuR [3,4]) (AI rfl (AJ (R2 TV))))
theorem H30:HI C30 30:=hI Tryz.f30 rfl fun x=>V30 x
def f18_l1 (j:PTz5) (go:(Int×D5)→Option D5) (v17:Int) (l2:D5):Option D5:=
 bif (decide (v17<j.2.2.2.2.1.length)) then
 Ad (0≤v17∧v17<j.2.2.2.2.1.length)<|
 Ac (f24 ((rd (Ty.z T2) j.2.2.2.2.1 v17).1)) fun q7_2=>
 Ac (f24 (((rd (Ty.z T2) j.2.2.2.2.1 v17).2).1)) fun q7_5=>
 Ad ((l2.length+List.length ([(q7_2,q7_5,((rd (Ty.z T2) j.2.2.2.2.1 v17).2).2)]))*56≤140737488355328)<|
 go ((i64.wrap (v17+1)),(l2++([(q7_2,q7_5,((rd (Ty.z T2) j.2.2.2.2.1 v17).2).2)])))
 else
 some l2
def f18 (j:PTz5):Option (Int×Int×Int×Int×Int×LI×LTz0×D5×LI):=
 Ac (f30 (j.1.1,j.1.2)) fun r1=>
 Ac (f24 j.2.2.2.2.2) fun r2=>
 Ac (Ag (fun go x=>f18_l1 j go x.1 x.2) Ah ((0:Int),[])) fun z3=>
 some (j.2.1,j.2.2.1,j.2.2.2.1.1,j.2.2.2.1.2.1,j.2.2.2.1.2.2,r1.1,r1.2,z3,r2)
def C18:Con:=⟨PTz5,Int×Int×Int×Int×Int×LI×LTz0×D5×LI,0,fun x=>[.dat T11 x],NX,fun x=>f18 x,fun y=>[.raw true [(.osl 0),(.osl 1),(.d T0 y.1),(.d T0 y.2.1),(.d T0 y.2.2.1),(.d T0 y.2.2.2.1),(.d T0 y.2.2.2.2.1),(.osl 2),(.osl 3)]],fun y=>[(0,.arr 3 T0 y.2.2.2.2.2.1),(1,.arr 79 T1 y.2.2.2.2.2.2.1),(2,.arr 46 T2 y.2.2.2.2.2.2.2.1),(3,.arr 26 T0 y.2.2.2.2.2.2.2.2)],4⟩
theorem V18 j y (q:f18 j=some y):VC Tryz.f18 C18 j y:=by
 unfold f18 at q
 refine OL (OL ?_)
 obtain ⟨r1,h,q⟩:=bE q
 refine OL (cA H30 (j.1.1,j.1.2) h rfl (R2 (K0 (OL (OL ?_)))))
 obtain ⟨r2,h,q⟩:=bE q
 refine OL (cA H24 j.2.2.2.2.2 h rfl (AI rfl (K0 (OL (OL (OL (OL ?_)))))))
 obtain ⟨z3,hz3,q⟩:=bE q
 let h0:LH:=fun zz=>(0,.cells [(.osl 3),(.osl 4),(.d T0 j.2.1),(.d T0 j.2.2.1),(.d T0 j.2.2.2.1.1),(.d T0 j.2.2.2.1.2.1),(.d T0 j.2.2.2.1.2.2),(.d T12 j.2.2.2.2.1),(.osl 5)])::(1,.cells [N0,N0,(.d T0 (0:Int)),(.d T0 (0:Int)),(.d T0 (0:Int)),(.d T0 (0:Int)),(.d T0 (0:Int)),N0,N0])::zz
 refine lJ hz3 (fun x=>⟨[(1,P0 0 0),(2,P0 1 0),(3,O0 2),(15,.dat T12 j.2.2.2.2.1),(16,.dat T0 (j.2.2.2.2.1.length:Int)),(17,.dat T0 x.1)],h0 [(2,.arr 46 T2 x.2),(3,.arr 3 T0 r1.1),(4,.arr 79 T1 r1.2),(5,.arr 26 T0 r2)],6⟩) (fun z=>[(2,⟨[(1,P0 0 0),(2,P0 1 0),(3,O0 2)],h0 [(2,.arr 46 T2 z),(3,.arr 3 T0 r1.1),(4,.arr 79 T1 r1.2),(5,.arr 26 T0 r2)],6⟩)]) (E4 (iuR [1,2,0,3,4,5]) (R4 (AI (R3 TV) (R6 TV)))) (fun m=>An (fun v17=>fun l2 z q=>?_)) ?_
 ·have q:f18_l1 j _ v17 l2=some z:=q
  unfold f18_l1 at q
  refine OL (OL (cI q (fun q=>?_) (fun q=>?_)))
  ·refine OL (OL (gI q (fun q=>?_)))
   refine OL (OL (EI (.take 0 (.take 1 (.take 3 (.take 4 (.alt 2 (.take 6 (.alt 5 (.alt 7 (.take 8 (.alt 9 .done .done)) .done) .done)) .done))))) (EI [(7,[5,6]),(9,[5,6])] (EI [] (AI rfl (AI TV ?_))))))
   obtain ⟨q7_2,h,q⟩:=bE q
   refine OL (AI H24.1 (cV (cQ C24 (rd (Ty.z T2) j.2.2.2.2.1 v17).1 q7_2 [] false H24.2 h rfl rfl (AI rfl (K0 (AI TV ?_))))))
   obtain ⟨q7_5,h,q⟩:=bE q
   refine OL (AI H24.1 (cV (cQ C24 ((rd (Ty.z T2) j.2.2.2.2.1 v17).2).1 q7_5 [] false H24.2 h rfl rfl (AI rfl (K0 (AI TV (OL (AI TV (OL (OL (OL (gI q (fun q=>?_)))))))))))))
   refine EI ((i64.wrap (v17+1)),(l2++([(q7_2,q7_5,((rd (Ty.z T2) j.2.2.2.2.1 v17).2).2)]))) (AI q (E4 (iuR [1,2,11,4,5,6]) (R4 (AI (R3 TV) (R6 TV)))))
  cases sE q
  refine E4 I6 (AI rfl (AI (R3 TV) (R6 TV)))
 refine AI (OL (OL (OL (OL ?_)))) TV
 cases sE q
 refine AI rfl (E4 (iuR [4,5,3,6]) (AI rfl (AJ (R4 TV))))
theorem H18:HI C18 18:=hI Tryz.f18 rfl fun x=>V18 x
def f19 (p_:LI):Option Al:=
 Ac (f24 p_) fun q1_1=>
 Ad (0≤(p_.length:Int)∧(p_.length:Int)≤p_.length∧Int.toNat (p_.length:Int)*8≤140737488355328)<|
 some (q1_1,(List.replicate (Int.toNat (p_.length:Int)) (0:Int)))
def C19:Con:=⟨LI,Al,0,fun x=>[.dat T5 x],NX,fun x=>f19 x,fun y=>[.raw true [(.osl 0),(.osl 1)]],fun y=>[(0,.arr 26 T0 y.1),(1,.arr 26 T0 y.2)],2⟩
theorem V19 p_ y (q:f19 p_=some y):VC Tryz.f19 C19 p_ y:=by
 unfold f19 at q
 refine OL (OL ?_)
 obtain ⟨q1_1,hq1_1,q⟩:=bE q
 obtain ⟨g1_1,q⟩:=gE q
 refine EI (.take 0 (.take 2 (.take 3 (.alt 1 (.alt 4 (.take 5 (.alt 6 .done .done)) .done) (.alt 4 (.alt 1 (.take 5 (.alt 6 .done .done)) .done) .done))))) (EI [] (EI [] (AI rfl (AI (AI TV ?_) ?_))))
 ·refine AI g1_1 (AI TV (OL (cA H24 p_ hq1_1 rfl (AI rfl (K0 (AI TV (OL ?_)))))))
  cases sE q
  refine AI rfl (E4 (iuR [3,2]) (AI rfl (AJ (R2 TV))))
 refine OL (cA H24 p_ hq1_1 rfl (AI rfl (K0 (AI TV (AI g1_1 (AI TV (OL ?_)))))))
 cases sE q
 refine AI rfl (E4 (iuR [2,3]) (AI rfl (AJ (R2 TV))))
theorem H19:HI C19 19:=hI Tryz.f19 rfl fun x=>V19 x
def f7 (j:PTz5):Option (Sum Int (LI×LTz0×Int×Int×Int×Int×Int×D5×LI×Al)):=
 Ac (f17 ((j.1.1,j.1.2),j.2.1,j.2.2.1,(j.2.2.2.1.1,j.2.2.2.1.2.1,j.2.2.2.1.2.2),j.2.2.2.2.1,j.2.2.2.2.2)) fun q4_8=>
 bif (q4_8 != 0) then
 some (Sum.inl q4_8)
 else
 Ac (f18 ((j.1.1,j.1.2),j.2.1,j.2.2.1,(j.2.2.2.1.1,j.2.2.2.1.2.1,j.2.2.2.1.2.2),j.2.2.2.2.1,j.2.2.2.2.2)) fun q4_1=>
 Ac (f19 j.2.2.2.2.2) fun q4_4=>
 some (Sum.inr (q4_1.2.2.2.2.2.1,q4_1.2.2.2.2.2.2.1,q4_1.1,q4_1.2.1,q4_1.2.2.1,q4_1.2.2.2.1,q4_1.2.2.2.2.1,q4_1.2.2.2.2.2.2.2.1,q4_1.2.2.2.2.2.2.2.2,q4_4.1,q4_4.2))
def C7:Con:=⟨PTz5,Sum Int (LI×LTz0×Int×Int×Int×Int×Int×D5×LI×Al),0,fun x=>[.dat T11 x],NX,fun x=>f7 x,fun y=>Sum.elim (fun y=>[.raw false [(.c (.pointer none))],.dat T0 y]) (fun y=>[P0 0 0,D0 0]) y,fun y=>Sum.elim (fun y=>[]) (fun y=>[(0,.cells [(.d T5 y.1),(.d T4 y.2.1),(.d T0 y.2.2.1),(.d T0 y.2.2.2.1),(.d T0 y.2.2.2.2.1),(.d T0 y.2.2.2.2.2.1),(.d T0 y.2.2.2.2.2.2.1),(.d T12 y.2.2.2.2.2.2.2.1),(.d T5 y.2.2.2.2.2.2.2.2.1),(.osl 1),(.osl 2),(.d T0 (0:Int)),(.d T0 (0:Int)),(.d T9 (0:Int))]),(1,.arr 26 T0 y.2.2.2.2.2.2.2.2.2.1),(2,.arr 26 T0 y.2.2.2.2.2.2.2.2.2.2)]) y,3⟩
theorem V7 j y (q:f7 j=some y):VC Tryz.f7 C7 j y:=by
 unfold f7 at q
 refine OL (OL (OL ?_))
 obtain ⟨q4_8,h,q⟩:=bE q
 refine OL (cA H17 ((j.1.1,j.1.2),j.2.1,j.2.2.1,(j.2.2.2.1.1,j.2.2.2.1.2.1,j.2.2.2.1.2.2),j.2.2.2.2.1,j.2.2.2.2.2) h rfl (R2 (K0 (OL (cI q (fun q=>?_) (fun q=>?_))))))
 ·cases sE q
  refine OL (AI rfl (E4 [] (R2 (AJ TV))))
 refine OL (EI (.take 0 (.take 2 (.take 3 (.alt 1 (.alt 4 (.take 5 (.alt 6 (.take 7 (.take 8 .done)) .done)) .done) .done)))) (EI [] (EI [] (AI rfl (AI TV ?_)))))
 obtain ⟨q4_1,h,q⟩:=bE q
 refine OL (cA H18 ((j.1.1,j.1.2),j.2.1,j.2.2.1,(j.2.2.2.1.1,j.2.2.2.1.2.1,j.2.2.2.1.2.2),j.2.2.2.2.1,j.2.2.2.2.2) h rfl (R2 (K0 (AI TV ?_))))
 obtain ⟨q4_4,h,q⟩:=bE q
 refine OL (cA H19 j.2.2.2.2.2 h rfl (AI rfl (K0 (AI TV ?_))))
 cases sE q
 refine AI rfl (EI [] (EI [] (EI [] (EI [1,2,3,4] (EI (iuR [8,6,7]) (R2 (AJ (R3 TV))))))))
theorem H7:HI C7 7:=hI Tryz.f7 rfl fun x=>V7 x
def f20_j1 (total size step:Int):Option (Sum Unit Unit):=
 bif (decide (total<1)) then
 some (Sum.inr ())
 else
 bif (decide (total>256)) then
 some (Sum.inr ())
 else
 bif (decide (size<1)) then
 some (Sum.inr ())
 else
 bif (decide (size>total)) then
 some (Sum.inr ())
 else
 bif (decide (step<0)) then
 some (Sum.inr ())
 else
 some (Sum.inl ())
def f20_l2 (total size step:Int) (go:Bc→Option LI) (v38:Int) (l0:LI):Option LI:=
 bif (decide (v38<size)) then
 Ad (total≠0)<|
 Ad ((l0.length+List.length ([(Int.tmod (i64.wrap ((Int.tmod (i64.wrap ((Int.tmod step total)*size)) total)+v38)) total)]))*8≤140737488355328)<|
 go ((i64.wrap (v38+1)),(l0++([(Int.tmod (i64.wrap ((Int.tmod (i64.wrap ((Int.tmod step total)*size)) total)+v38)) total)])))
 else
 some l0
def f20 (total size step:Int):Option Bc:=
 Ac (f20_j1 total size step) fun z1=>
 Ak z1 (fun z1a=>
 Ad (total≠0)<|
 Ad (total≠0)<|
 Ac (Ag (fun go x=>f20_l2 total size step go x.1 x.2) Ah ((0:Int),[])) fun z2=>
 some ((0:Int),z2)) (fun z1b=>
 some ((1:Int),[]))
def C20:Con:=⟨Bw,Bc,0,fun x=>[.dat T0 x.1,.dat T0 x.2.1,.dat T0 x.2.2],NX,fun x=>f20 x.1 x.2.1 x.2.2,fun y=>[O0 0,.dat T0 y.1],fun y=>[(0,.arr 3 T0 y.2)],1⟩
theorem V20 total size step y (q:f20 total size step=some y):VC Tryz.f20 C20 (total,size,step) y:=by
 unfold f20 at q
 refine OL ?_
 obtain ⟨z1,hz1,q⟩:=bE q
 refine OQ ⟨Sum.elim (fun z1a=>[(0,⟨[(0,.dat T0 total),(1,.dat T0 size),(2,.dat T0 step)],[],0⟩)]) (fun z1b=>[(1,⟨[(6,.raw false [N0]),(7,D0 1)],[],0⟩)]) z1,?_,?_⟩
 ·have q:=hz1
  clear hz1
  unfold f20_j1 at q
  refine OL (cN q (fun q=>?_) (fun q=>?_))
  ·refine gY (cF (cN q (fun q=>?_) (fun q=>?_)))
   ·refine gY (cF (cN q (fun q=>?_) (fun q=>?_)))
    ·refine gY (gY (cF (cN q (fun q=>?_) (fun q=>?_))))
     ·refine gY (cF (cI q (fun q=>?_) (fun q=>?_)))
      ·cases sE q
       refine OL (E4 [] (R2 (AJ TV)))
      cases sE q
      refine E4 [] (R4 (AI TV TV))
     refine gN (cT (cT (OL ?_)))
     cases sE q
     refine E4 [] (R2 (AJ TV))
    refine gN (gN (cT (gN (gN (cT (cT (OL ?_)))))))
    cases sE q
    refine E4 [] (R2 (AJ TV))
   refine gN (cT (gN (gN (gN (cT (gN (gN (cT (cT (OL ?_))))))))))
   cases sE q
   refine E4 [] (R2 (AJ TV))
  refine gN (cT (gN (gN (cT (gN (gN (gN (cT (gN (gN (cT (cT (OL ?_)))))))))))))
  cases sE q
  refine E4 [] (R2 (AJ TV))
 rcases z1 with z1a | z1b
 ·dsimp only [Ak] at q
  refine AI (OL (gI q (fun q=>?_))) TV
  refine gI q (fun q=>?_)
  refine OL (OL (OL ?_))
  obtain ⟨z2,h,q⟩:=bE q
  refine lJ h (fun x=>⟨[(0,.dat T0 total),(8,.dat T0 (Int.tmod (i64.wrap ((Int.tmod step total)*size)) total)),(9,O0 0),(37,.dat T0 size),(38,.dat T0 x.1)],[(0,.arr 3 T0 x.2)],1⟩) (fun z=>[(2,⟨[(9,O0 0)],[(0,.arr 3 T0 z)],1⟩)]) (E4 (iuR [0]) (R5 (AJ (AI rfl TV)))) (fun m=>An (fun v38=>fun l0 z q=>?_)) ?_
  ·have q:f20_l2 total size step _ v38 l0=some z:=q
   unfold f20_l2 at q
   refine OL (OL (cI q (fun q=>?_) (fun q=>?_)))
   ·refine OL (OL (gI q (fun q=>?_)))
    refine OL (OL (gI q (fun q=>?_)))
    refine EI ((i64.wrap (v38+1)),(l0++([(Int.tmod (i64.wrap ((Int.tmod (i64.wrap ((Int.tmod step total)*size)) total)+v38)) total)]))) (AI q (E4 (iuR [3]) (R5 (AJ (AI rfl TV)))))
   cases sE q
   refine E4 (iuR [1]) (AI rfl (AJ (AI rfl TV)))
  refine AI (OL ?_) TV
  cases sE q
  refine AI rfl (E4 (iuR [1]) (R2 (AJ (AI rfl TV))))
 dsimp only [Ak] at q
 refine AI ?_ TV
 cases sE q
 refine AI rfl (E4 (iuR [0]) (R2 (AJ (AI rfl TV))))
theorem H20:HI C20 20:=hI Tryz.f20 rfl fun x=>V20 x.1 x.2.1 x.2.2
def f22_l1 (j:PTz5) (places:LI) (go:(Int×D5)→Option D5) (v10:Int) (l1:D5):Option D5:=
 bif (decide (v10<places.length)) then
 Ad (0≤v10∧v10<places.length)<|
 Ad (0≤(rd 0 places v10)∧(rd 0 places v10)<j.2.2.2.2.1.length)<|
 Ad ((l1.length+List.length ([((rd (Ty.z T2) j.2.2.2.2.1 (rd 0 places v10)).1,((rd (Ty.z T2) j.2.2.2.2.1 (rd 0 places v10)).2).1,((rd (Ty.z T2) j.2.2.2.2.1 (rd 0 places v10)).2).2)]))*56≤140737488355328)<|
 go ((i64.wrap (v10+1)),(l1++([((rd (Ty.z T2) j.2.2.2.2.1 (rd 0 places v10)).1,((rd (Ty.z T2) j.2.2.2.2.1 (rd 0 places v10)).2).1,((rd (Ty.z T2) j.2.2.2.2.1 (rd 0 places v10)).2).2)])))
 else
 some l1
def f22 (j:PTz5) (places:LI):Option D5:=
 Ac (Ag (fun go x=>f22_l1 j places go x.1 x.2) Ah ((0:Int),[])) fun z1=>
 some z1
def C22:Con:=⟨PTz5×LI,List (LI×LI×Int),0,fun x=>[.dat T11 x.1,.dat T5 x.2],NX,fun x=>f22 x.1 x.2,fun y=>[O0 0],fun y=>[(0,.arr 46 T2 y)],1⟩
theorem V22 j places y (q:f22 j places=some y):VC Tryz.f22 C22 (j,places) y:=by
 unfold f22 at q
 refine OL (OL (OL (OL ?_)))
 obtain ⟨z1,h,q⟩:=bE q
 refine lJ h (fun x=>⟨[(2,P0 0 0),(5,O0 1),(8,.dat T5 places),(9,.dat T0 (places.length:Int)),(10,.dat T0 x.1)],[(0,.cells [(.d T5 j.1.1),(.d T4 j.1.2),(.d T0 j.2.1),(.d T0 j.2.2.1),(.d T0 j.2.2.2.1.1),(.d T0 j.2.2.2.1.2.1),(.d T0 j.2.2.2.1.2.2),(.d T12 j.2.2.2.2.1),(.d T5 j.2.2.2.2.2)]),(1,.arr 46 T2 x.2)],2⟩) (fun z=>[(2,⟨[(5,O0 0)],[(0,.arr 46 T2 z)],1⟩)]) (E4 (iuR [1,0]) (R4 (AI (R2 TV) (R2 TV)))) (fun m=>An (fun v10=>fun l1 z q=>?_)) ?_
 ·have q:f22_l1 j places _ v10 l1=some z:=q
  unfold f22_l1 at q
  refine OL (OL (cI q (fun q=>?_) (fun q=>?_)))
  ·refine OL (OL (gI q (fun q=>?_)))
   refine gI q (fun q=>?_)
   refine OL (OL (gI q (fun q=>?_)))
   refine EI ((i64.wrap (v10+1)),(l1++([((rd (Ty.z T2) j.2.2.2.2.1 (rd 0 places v10)).1,((rd (Ty.z T2) j.2.2.2.2.1 (rd 0 places v10)).2).1,((rd (Ty.z T2) j.2.2.2.2.1 (rd 0 places v10)).2).2)]))) (AI q (E4 (iuR [1,4]) (R4 (AI (R2 TV) (R2 TV)))))
  cases sE q
  refine E4 (iuR [2]) (AI rfl (AJ (AI rfl TV)))
 refine AI (OL ?_) TV
 cases sE q
 refine AI rfl (E4 (iuR [1]) (AI rfl (AJ (AI rfl TV))))
theorem H22:HI C22 22:=hI Tryz.f22 rfl fun x=>V22 x.1 x.2
def f21_l4 (q17_4:Int×Bc) (go:(Int×LTz2)→Option LTz2) (v55:Int) (l2_2:LTz2):Option LTz2:=
 bif (decide (v55<q17_4.2.2.length)) then
 Ad (0≤v55∧v55<q17_4.2.2.length)<|
 Ad (0≤v55∧v55<l2_2.length)<|
 Ac (f32 (rd 0 q17_4.2.2 v55)) fun q15_7=>
 Ac (f31 ((rd (Ty.z T10) l2_2 v55).1,(rd (Ty.z T10) l2_2 v55).2) (q15_7.1,q15_7.2)) fun q15_8=>
 Ad (0≤v55∧v55<l2_2.length)<|
 go ((i64.wrap (v55+1)),(List.set l2_2 (Int.toNat v55) (q15_8.1,q15_8.2)))
 else
 some l2_2
def f21_l3 (n:Az) (kind:Int) (p_:LI) (l:D5) (go:(Int×LTz2×Ax)→Option (Sum Int (LTz2×Ax))) (v36:Int) (l2:LTz2) (c3_0 c3_1:Int):Option (Sum Int (LTz2×Ax)):=
 bif (decide (v36<l.length)) then
 Ad (0≤v36∧v36<l.length)<|
 Ac (f29 (n.1,n.2) kind p_ ((rd (Ty.z T2) l v36).1,((rd (Ty.z T2) l v36).2).1,((rd (Ty.z T2) l v36).2).2)) fun q17_4=>
 bif (q17_4.2.1 != 0) then
 some (Sum.inl q17_4.2.1)
 else
 Ac (Ag (fun go x=>f21_l4 q17_4 go x.1 x.2) Ah ((0:Int),l2)) fun z5=>
 Ac (f32 q17_4.1) fun q17_2=>
 Ac (f31 (c3_0,c3_1) (q17_2.1,q17_2.2)) fun q17_3=>
 go ((i64.wrap (v36+1)),z5,q17_3.1,q17_3.2)
 else
 some (Sum.inr (l2,c3_0,c3_1))
def f21 (n:Az) (kind:Int) (p_:LI) (l:D5):Option (Int×Int×Int×LTz2):=
 Ac (f28 (n.1,n.2)) fun q19_4=>
 bif (q19_4.2 != 0) then
 some ((0:Int),(0:Int),q19_4.2,[])
 else
 Ad (0≤q19_4.1∧q19_4.1≤q19_4.1∧Int.toNat q19_4.1*16≤140737488355328)<|
 Ac (Ag (fun go x=>f21_l3 n kind p_ l go x.1 x.2.1 x.2.2.1 x.2.2.2) Ah ((0:Int),(List.replicate (Int.toNat q19_4.1) (Ty.z T10)),(0:Int),(0:Int))) fun z4=>
 Ak z4 (fun z4a=>
 some ((0:Int),(0:Int),z4a,[])) (fun z4b=>
 some (z4b.2.1,z4b.2.2,(0:Int),z4b.1))
def C21:Con:=⟨Az×Int×LI×D5,Int×Int×Int×LTz2,0,fun x=>[.dat T3 x.1,.dat T0 x.2.1,.dat T5 x.2.2.1,.dat T12 x.2.2.2],NX,fun x=>f21 x.1 x.2.1 x.2.2.1 x.2.2.2,fun y=>[O0 0,.raw true [(.d T0 y.1),(.d T9 y.2.1)],.dat T0 y.2.2.1],fun y=>[(0,.arr 67 T10 y.2.2.2)],1⟩
theorem V21 n kind p_ l y (q:f21 n kind p_ l=some y):VC Tryz.f21 C21 (n,kind,p_,l) y:=by
 unfold f21 at q
 refine OL (OL ?_)
 obtain ⟨q19_4,h,q⟩:=bE q
 refine OL (cA H28 (n.1,n.2) h rfl (R2 (K0 (OL (OL (cI q (fun q=>?_) (fun q=>?_)))))))
 ·refine OL (OL ?_)
  cases sE q
  refine AI rfl (E4 (iuR [0]) (R2 (AI (R2 TV) (AI rfl TV))))
 refine OL (gI q (fun q=>?_))
 refine OL (OL (OL (OL ?_)))
 obtain ⟨z4,hz4,q⟩:=bE q
 let e0:LE:=fun zz=>(1,.dat T0 kind)::(2,.dat T5 p_)::(4,P0 0 0)::(9,P0 1 0)::(13,O0 2)::(14,P0 3 0)::zz
 let h1:LH:=fun zz=>(0,.cells [(.d T5 n.1),(.d T4 n.2)])::(1,.cells [(.d T0 (0:Int)),(.d T9 (0:Int))])::zz
 refine lJ hz4 (fun x=>⟨e0 [(34,.dat T12 l),(35,.dat T0 (l.length:Int)),(36,.dat T0 x.1)],h1 [(2,.arr 67 T10 x.2.1),(3,.cells [(.d T0 x.2.2.1),(.d T9 x.2.2.2)])],4⟩) (fun z=>Sum.elim (fun za=>[(1,⟨[(8,.raw false [N0]),(9,P0 0 0),(10,.dat T0 za)],[(0,.cells [(.d T0 (0:Int)),(.d T9 (0:Int))])],1⟩)]) (fun zb=>[(2,⟨[(9,P0 0 0),(13,O0 1),(14,P0 2 0)],[(0,.cells [(.d T0 (0:Int)),(.d T9 (0:Int))]),(1,.arr 67 T10 zb.1),(2,.cells [(.d T0 zb.2.1),(.d T9 zb.2.2)])],3⟩)]) z) (E4 I4 (R6 (AI (R4 TV) (R4 TV)))) (fun m=>An (fun v36=>An (fun l2=>An (fun c3_0=>fun c3_1 z q=>?_)))) ?_
 ·have q:f21_l3 n kind p_ l _ v36 l2 c3_0 c3_1=some z:=q
  unfold f21_l3 at q
  refine OL (OL (cI q (fun q=>?_) (fun q=>?_)))
  ·refine OL (OL (gI q (fun q=>?_)))
   refine OL (OL ?_)
   obtain ⟨q17_4,h,q⟩:=bE q
   refine OL (cA H29 ((n.1,n.2),kind,p_,((rd (Ty.z T2) l v36).1,((rd (Ty.z T2) l v36).2).1,((rd (Ty.z T2) l v36).2).2)) h rfl (R6 (K0 (OL (OL (cI q (fun q=>?_) (fun q=>?_)))))))
   ·refine OL (OL ?_)
    cases sE q
    refine E4 (iuR [2]) (R2 (AI (R2 TV) (AI rfl TV)))
   refine OL (OL ?_)
   obtain ⟨z5,hz5,q⟩:=bE q
   let e2:LE:=fun zz=>e0 ((18,.dat T0 q17_4.1)::(34,.dat T12 l)::(35,.dat T0 (l.length:Int))::(36,.dat T0 v36)::zz)
   refine lJ hz5 (fun x=>⟨e2 [(53,O0 4),(54,.dat T0 (q17_4.2.2.length:Int)),(55,.dat T0 x.1)],h1 [(2,.arr 67 T10 x.2),(3,.cells [(.d T0 c3_0),(.d T9 c3_1)]),(4,.arr 26 T0 q17_4.2.2)],5⟩) (fun z=>[(4,⟨e2 [],h1 [(2,.arr 67 T10 z),(3,.cells [(.d T0 c3_0),(.d T9 c3_1)])],4⟩)]) (E4 (iuR [1,2,3,4,6]) (R9 (AI (R5 TV) (R5 TV)))) (fun m=>An (fun v55=>fun l2_2 z q=>?_)) ?_
   ·have q:f21_l4 q17_4 _ v55 l2_2=some z:=q
    unfold f21_l4 at q
    refine OL (OL (cI q (fun q=>?_) (fun q=>?_)))
    ·refine OL (OL (gI q (fun q=>?_)))
     refine EI (tU 0 7 (.alt 7 (.alt 8 (.take 9 (.alt 10 .done .done)) .done) .done)) (EI [(10,[2])] (EI [] (AI rfl (gI q (fun q=>?_)))))
     refine AI TV ?_
     obtain ⟨q15_7,h,q⟩:=bE q
     refine OL (cA H32 (rd (0:Int) q17_4.2.2 v55) h rfl (AI rfl (K0 (AI TV ?_))))
     obtain ⟨q15_8,h,q⟩:=bE q
     refine OL (cA H31 (((rd (Ty.z T10) l2_2 v55).1,(rd (Ty.z T10) l2_2 v55).2),(q15_7.1,q15_7.2)) h rfl (R4 (K0 (gI q (fun q=>?_)))))
     refine AI TV (OL (EI ((i64.wrap (v55+1)),(List.set l2_2 (Int.toNat v55) (q15_8.1,q15_8.2))) (AI q (E4 I5 (R9 (AI (R5 TV) (R5 TV)))))))
    cases sE q
    refine E4 I4 (R7 (AI (R4 TV) (R4 TV)))
   refine AI (EI (.take 0 (.take 1 (.alt 2 (.alt 3 (.alt 4 .done .done) .done) .done))) (EI [(4,[3])] (EI [] (AI rfl (AI TV ?_))))) TV
   obtain ⟨q17_2,h,q⟩:=bE q
   refine OL (cA H32 q17_4.1 h rfl (AI rfl (K0 (AI TV ?_))))
   obtain ⟨q17_3,h,q⟩:=bE q
   refine OL (cA H31 ((c3_0,c3_1),(q17_2.1,q17_2.2)) h rfl (R4 (K0 (AI TV (OL (EI ((i64.wrap (v36+1)),z5,q17_3.1,q17_3.2) (AI q (E4 I4 (R6 (AI (R4 TV) (R4 TV)))))))))))
  cases sE q
  refine E4 (iuR [2,3,4]) (AI rfl (AI (R3 TV) (R3 TV)))
 rcases z4 with z4a | z4b
 ·dsimp only [Ak] at q
  refine AI ?_ TV
  cases sE q
  refine AI rfl (E4 (iuR [0]) (R2 (AI (R2 TV) (AI rfl TV))))
 dsimp only [Ak] at q
 refine AI (OL (EI (tU 0 3 (.alt 3 (.take 4 .done) .done)) (EI [] (EI [] (AI rfl (AI TV (OL ?_))))))) TV
 cases sE q
 refine AI rfl (E4 (iuR [2]) (R2 (AI (R2 TV) (AI rfl TV))))
theorem H21:HI C21 21:=hI Tryz.f21 rfl fun x=>V21 x.1 x.2.1 x.2.2.1 x.2.2.2
end Go.Proofs
