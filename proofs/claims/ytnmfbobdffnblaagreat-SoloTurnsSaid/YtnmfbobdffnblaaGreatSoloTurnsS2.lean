import Derived.Test.YtnmfbobdffnblaaGreatSoloTurnsS1
set_option linter.unusedVariables false
set_option maxRecDepth 100000
set_option maxHeartbeats 8000000
namespace Go.Proofs
open Go.AM
open IntKind (i64 u64 i32 u32 i16 u16 i8 u8)
def f144_l1 (k:Int) (r1:Al) (go:Bc→Option LI) (v18:Int) (l2:LI):Option LI:=
 bif (decide (v18<r1.2.length)) then
 Ad (0≤v18∧v18<l2.length)<|
 Ac (f34 (rd 0 l2 v18) k) fun q7_5=>
 Ad (0≤v18∧v18<l2.length)<|
 go ((i64.wrap (v18+1)),(List.set l2 (Int.toNat v18) q7_5))
 else
 some l2
def f144 (a:Al) (k:Int):Option Bl:=
 Ac (f119 (a.1,a.2)) fun q7_7=>
 bif (!q7_7) then
 some ((1:Int),[],[])
 else
 Ac (f118 (a.1,a.2)) fun r1=>
 Ac (Ag (fun go x=>f144_l1 k r1 go x.1 x.2) Ah ((0:Int),r1.2)) fun z2=>
 some ((0:Int),r1.1,z2)
def C144:Con:=⟨Al×Int,Bl,0,fun x=>[.dat T8 x.1,.dat T0 x.2],NX,fun x=>f144 x.1 x.2,fun y=>[.raw true [(.osl 0),(.osl 1)],.dat T0 y.1],fun y=>[(0,.arr 3 T0 y.2.1),(1,.arr 26 T0 y.2.2)],2⟩
theorem V144 a k y (q:f144 a k=some y):VC Tryz.f144 C144 (a,k) y:=by
 unfold f144 at q
 refine OL (OL (OL ?_))
 obtain ⟨q7_7,h,q⟩:=bE q
 refine OL (cA H119 (a.1,a.2) h rfl (R2 (K0 (cI q (fun q=>?_) (fun q=>?_)))))
 ·refine OL (OL ?_)
  cases sE q
  refine AI rfl (E4 (iuR [0,0]) (R2 (AJ (R2 TV))))
 refine OL ?_
 obtain ⟨r1,h,q⟩:=bE q
 refine OL (cA H118 (a.1,a.2) h rfl (R2 (K0 (OL (OL (OL ?_))))))
 obtain ⟨z2,h,q⟩:=bE q
 refine lJ h (fun x=>⟨[(1,.dat T0 k),(4,P0 0 0),(6,P0 1 0),(16,O0 2),(17,.dat T0 (r1.2.length:Int)),(18,.dat T0 x.1)],[(0,.cells [N0,N0]),(1,.cells [(.osl 3),(.osl 2)]),(2,.arr 26 T0 x.2),(3,.arr 3 T0 r1.1)],4⟩) (fun z=>[(2,⟨[(4,P0 0 0),(6,P0 1 0)],[(0,.cells [N0,N0]),(1,.cells [(.osl 2),(.osl 3)]),(2,.arr 3 T0 r1.1),(3,.arr 26 T0 z)],4⟩)]) (E4 (iuR [2,5,4,3]) (R4 (AI (R3 TV) (R4 TV)))) (fun m=>An (fun v18=>fun l2 z q=>?_)) ?_
 ·have q:f144_l1 k r1 _ v18 l2=some z:=q
  unfold f144_l1 at q
  refine OL (OL (cI q (fun q=>?_) (fun q=>?_)))
  ·refine OL (OL (gI q (fun q=>?_)))
   refine EI (tU 0 5 (.alt 5 (.take 6 (.alt 7 .done .done)) .done)) (EI [] (EI [] (AI rfl (AI TV ?_))))
   obtain ⟨q7_5,h,q⟩:=bE q
   refine OL (cA H34 ((rd 0 l2 v18),k) h rfl (R2 (K0 (gI q (fun q=>?_)))))
   refine AI TV (OL (EI ((i64.wrap (v18+1)),(List.set l2 (Int.toNat v18) q7_5)) (AI q (E4 I4 (R4 (AI (R3 TV) (R4 TV)))))))
  cases sE q
  refine E4 (iuR [1,2,4,3]) (AI rfl (AI (R2 TV) (R4 TV)))
 refine AI (OL (OL ?_)) TV
 cases sE q
 refine AI rfl (E4 (iuR [3,4]) (R2 (AJ (R2 TV))))
theorem H144:HI C144 144:=hI Tryz.f144 rfl fun x=>V144 x.1 x.2
def f208_j3 (a:Al) (Aj:Int):Option Bool:=
 Ac (f119 (a.1,a.2)) fun r6=>
 bif (!r6) then
 some true
 else
 bif (decide (Aj<0)) then
 some true
 else
 some (decide (Aj≥a.1.length))
def f208_j2 (a:Al) (Aj:Int):Option (Sum Unit Unit):=
 Ac (f208_j3 a Aj) fun z5=>
 bif z5 then
 some (Sum.inr ())
 else
 some (Sum.inl ())
def f208_l4 (a:Al) (Aj:Int) (r7:LI) (go:(Int×LTz2)→Option LTz2) (v55:Int) (l3:LTz2):Option LTz2:=
 bif (decide (v55<a.2.length)) then
 Ad (0≤v55∧v55<a.2.length)<|
 Ad (0≤Aj∧Aj<a.1.length)<|
 Ad ((i64.wrap ((rd 0 r7 Aj)*(rd 0 a.1 Aj)))≠0)<|
 Ad ((rd 0 r7 Aj)≠0)<|
 Ad (0≤(i64.wrap ((i64.wrap ((i64.wrap (Int.tdiv v55 (i64.wrap ((rd 0 r7 Aj)*(rd 0 a.1 Aj)))))*(rd 0 r7 Aj)))+(Int.tmod v55 (rd 0 r7 Aj))))∧(i64.wrap ((i64.wrap ((i64.wrap (Int.tdiv v55 (i64.wrap ((rd 0 r7 Aj)*(rd 0 a.1 Aj)))))*(rd 0 r7 Aj)))+(Int.tmod v55 (rd 0 r7 Aj))))<l3.length)<|
 Ac (f32 (rd 0 a.2 v55)) fun q10_7=>
 Ac (f31 ((rd (Ty.z T10) l3 (i64.wrap ((i64.wrap ((i64.wrap (Int.tdiv v55 (i64.wrap ((rd 0 r7 Aj)*(rd 0 a.1 Aj)))))*(rd 0 r7 Aj)))+(Int.tmod v55 (rd 0 r7 Aj))))).1,(rd (Ty.z T10) l3 (i64.wrap ((i64.wrap ((i64.wrap (Int.tdiv v55 (i64.wrap ((rd 0 r7 Aj)*(rd 0 a.1 Aj)))))*(rd 0 r7 Aj)))+(Int.tmod v55 (rd 0 r7 Aj))))).2) (q10_7.1,q10_7.2)) fun q10_8=>
 Ad (0≤(i64.wrap ((i64.wrap ((i64.wrap (Int.tdiv v55 (i64.wrap ((rd 0 r7 Aj)*(rd 0 a.1 Aj)))))*(rd 0 r7 Aj)))+(Int.tmod v55 (rd 0 r7 Aj))))∧(i64.wrap ((i64.wrap ((i64.wrap (Int.tdiv v55 (i64.wrap ((rd 0 r7 Aj)*(rd 0 a.1 Aj)))))*(rd 0 r7 Aj)))+(Int.tmod v55 (rd 0 r7 Aj))))<l3.length)<|
 go ((i64.wrap (v55+1)),(List.set l3 (Int.toNat (i64.wrap ((i64.wrap ((i64.wrap (Int.tdiv v55 (i64.wrap ((rd 0 r7 Aj)*(rd 0 a.1 Aj)))))*(rd 0 r7 Aj)))+(Int.tmod v55 (rd 0 r7 Aj))))) (q10_8.1,q10_8.2)))
 else
 some l3
def f208_l5 (z8:LTz2) (go:Bc→Option LI) (v93:Int) (l4:LI):Option LI:=
 bif (decide (v93<z8.length)) then
 Ad (0≤v93∧v93<z8.length)<|
 Ac (f84 ((rd (Ty.z T10) z8 v93).1,(rd (Ty.z T10) z8 v93).2)) fun q16_4=>
 Ad (0≤v93∧v93<l4.length)<|
 go ((i64.wrap (v93+1)),(List.set l4 (Int.toNat v93) q16_4))
 else
 some l4
def f208 (a:Al) (Aj:Int):Option Bl:=
 Ac (f208_j2 a Aj) fun z3=>
 Ak z3 (fun z3a=>
 Ad (0≤Aj∧Aj≤a.1.length)<|
 Ad (0≤(i64.wrap (Aj+1))∧(i64.wrap (Aj+1))≤a.1.length)<|
 Ad ((List.length ([]:LI)+List.length (List.take (Int.toNat Aj) a.1))*8≤140737488355328)<|
 Ad ((List.length (([]:LI)++(List.take (Int.toNat Aj) a.1))+List.length (List.drop (Int.toNat (i64.wrap (Aj+1))) a.1))*8≤140737488355328)<|
 Ac (f116 ((([]:LI)++(List.take (Int.toNat Aj) a.1))++(List.drop (Int.toNat (i64.wrap (Aj+1))) a.1))) fun q3_12=>
 Ad (0≤q3_12∧q3_12≤q3_12∧Int.toNat q3_12*16≤140737488355328)<|
 Ac (f214 a.1) fun r7=>
 Ad (0≤Aj∧Aj<r7.length)<|
 Ac (Ag (fun go x=>f208_l4 a Aj r7 go x.1 x.2) Ah ((0:Int),(List.replicate (Int.toNat q3_12) (Ty.z T10)))) fun z8=>
 Ac (f75 ((([]:LI)++(List.take (Int.toNat Aj) a.1))++(List.drop (Int.toNat (i64.wrap (Aj+1))) a.1)) (0:Int)) fun q10_10=>
 Ac (Ag (fun go x=>f208_l5 z8 go x.1 x.2) Ah ((0:Int),q10_10.2.2)) fun z9=>
 some ((0:Int),q10_10.2.1,z9)) (fun z3b=>
 some ((1:Int),[],[]))
def C208:Con:=⟨Al×Int,Bl,0,fun x=>[.dat T8 x.1,.dat T0 x.2],NX,fun x=>f208 x.1 x.2,fun y=>[.raw true [(.osl 0),(.osl 1)],.dat T0 y.1],fun y=>[(0,.arr 3 T0 y.2.1),(1,.arr 26 T0 y.2.2)],2⟩
theorem V208 a Aj y (q:f208 a Aj=some y):VC Tryz.f208 C208 (a,Aj) y:=by
 unfold f208 at q
 refine OL ?_
 obtain ⟨z3,hz3,q⟩:=bE q
 let e0:LE:=fun zz=>(1,.dat T0 Aj)::(2,P0 0 0)::(4,P0 1 0)::zz
 let h1:LH:=fun zz=>(0,.cells [(.d T5 a.1),(.d T5 a.2)])::(1,.cells [N0,N0])::zz
 refine OQ ⟨Sum.elim (fun z3a=>[(0,⟨e0 [],h1 [],2⟩)]) (fun z3b=>[(1,⟨[(4,P0 0 0),(5,D0 1)],[(0,.cells [N0,N0])],1⟩)]) z3,?_,?_⟩
 ·have q:=hz3
  clear hz3
  unfold f208_j2 at q
  obtain ⟨z5,hz5,q⟩:=bE q
  refine OQ ⟨[(0,⟨e0 [(29,.dat .bool z5)],h1 [],2⟩)],?_,?_⟩
  ·have q:=hz5
   clear hz5
   unfold f208_j3 at q
   obtain ⟨r6,h,q⟩:=bE q
   refine OL (cA H119 (a.1,a.2) h rfl (R2 (K0 (cN q (fun q=>?_) (fun q=>?_)))))
   ·refine gY (cF (cN q (fun q=>?_) (fun q=>?_)))
    ·refine gY (gY (gY (gY (cF ?_))))
     cases sE q
     refine E4 I2 (R3 (AI (R2 TV) (R2 TV)))
    refine gN (gN (gN (gN (cT ?_))))
    cases sE q
    refine E4 I2 (R3 (AI (R2 TV) (R2 TV)))
   refine gN (cT (gN (gN (gN (gN (gN (cT ?_)))))))
   cases sE q
   refine E4 I2 (R3 (AI (R2 TV) (R2 TV)))
  refine AI (cI q (fun q=>?_) (fun q=>?_)) TV
  ·refine OL (OL ?_)
   cases sE q
   refine E4 (iuR [2]) (R2 (AJ (AI rfl TV)))
  cases sE q
  refine E4 I2 (R2 (AI (R2 TV) (R2 TV)))
 rcases z3 with z3a | z3b
 ·dsimp only [Ak] at q
  refine AI (OL (EI (tU 1 4 (tU 6 5 (.alt 0 (.alt 5 (.alt 11 (.take 12 .done) .done) .done) .done))) (EI [] (EI [] (AI rfl (gI q (fun q=>?_))))))) TV
  refine gI q (fun q=>?_)
  refine AI TV (OL (AI TV (OL (gI q (fun q=>?_)))))
  refine AI TV (OL (gI q (fun q=>?_)))
  refine OL ?_
  obtain ⟨q3_12,h,q⟩:=bE q
  refine OL (cD H116 ((([]:LI)++(List.take (Int.toNat Aj) a.1))++(List.drop (Int.toNat (i64.wrap (Aj+1))) a.1)) h rfl (AI rfl (AI (fun _=>rfl) (R2 (AI TV (AI TV (gI q (fun q=>?_))))))))
  refine OL ?_
  obtain ⟨r7,h,q⟩:=bE q
  refine OL (cA H214 a.1 h rfl (AI rfl (K0 (gI q (fun q=>?_)))))
  refine OL (OL ?_)
  obtain ⟨z8,h,q⟩:=bE q
  refine lJ h (fun x=>⟨e0 [(6,O0 2),(7,O0 3),(8,.dat T0 (rd 0 r7 Aj)),(53,.dat T5 a.2),(54,.dat T0 (a.2.length:Int)),(55,.dat T0 x.1)],h1 [(2,.arr 3 T0 ((([]:LI)++(List.take (Int.toNat Aj) a.1))++(List.drop (Int.toNat (i64.wrap (Aj+1))) a.1))),(3,.arr 67 T10 x.2)],4⟩) (fun z=>[(2,⟨[(4,P0 0 0),(6,O0 1),(7,O0 2)],[(0,.cells [N0,N0]),(1,.arr 3 T0 ((([]:LI)++(List.take (Int.toNat Aj) a.1))++(List.drop (Int.toNat (i64.wrap (Aj+1))) a.1))),(2,.arr 67 T10 z)],3⟩)]) (E4 (iuR [1,2,5,6]) (R6 (AI (R4 TV) (R4 TV)))) (fun m=>An (fun v55=>fun l3 z q=>?_)) ?_
  ·have q:f208_l4 a Aj r7 _ v55 l3=some z:=q
   unfold f208_l4 at q
   refine OL (OL (cI q (fun q=>?_) (fun q=>?_)))
   ·refine OL (OL (gI q (fun q=>?_)))
    refine OL (EI (tU 0 16 .done) (EI [] (EI [] (AI rfl (gI q (fun q=>?_))))))
    refine gI q (fun q=>?_)
    refine gI q (fun q=>?_)
    refine EI (tU 0 7 (.alt 7 (.alt 8 (.take 9 (.alt 10 .done .done)) .done) .done)) (EI [(10,[3])] (EI [] (AI rfl (gI q (fun q=>?_)))))
    refine AI TV ?_
    obtain ⟨q10_7,h,q⟩:=bE q
    refine OL (cA H32 (rd (0:Int) a.2 v55) h rfl (AI rfl (K0 (AI TV ?_))))
    obtain ⟨q10_8,h,q⟩:=bE q
    refine OL (cA H31 (((rd (Ty.z T10) l3 (i64.wrap ((i64.wrap ((i64.wrap (Int.tdiv v55 (i64.wrap ((rd 0 r7 Aj)*(rd 0 a.1 Aj)))))*(rd 0 r7 Aj)))+(Int.tmod v55 (rd 0 r7 Aj))))).1,(rd (Ty.z T10) l3 (i64.wrap ((i64.wrap ((i64.wrap (Int.tdiv v55 (i64.wrap ((rd 0 r7 Aj)*(rd 0 a.1 Aj)))))*(rd 0 r7 Aj)))+(Int.tmod v55 (rd 0 r7 Aj))))).2),(q10_7.1,q10_7.2)) h rfl (R4 (K0 (gI q (fun q=>?_)))))
    refine AI TV (OL (EI ((i64.wrap (v55+1)),(List.set l3 (Int.toNat (i64.wrap ((i64.wrap ((i64.wrap (Int.tdiv v55 (i64.wrap ((rd 0 r7 Aj)*(rd 0 a.1 Aj)))))*(rd 0 r7 Aj)))+(Int.tmod v55 (rd 0 r7 Aj))))) (q10_8.1,q10_8.2))) (AI q (E4 I4 (R6 (AI (R4 TV) (R4 TV)))))))
   cases sE q
   refine E4 (iuR [2,3,4]) (AI rfl (AI (R3 TV) (R3 TV)))
  refine AI (OL ?_) TV
  obtain ⟨q10_10,h,q⟩:=bE q
  refine OL (cD H75 (((([]:LI)++(List.take (Int.toNat Aj) a.1))++(List.drop (Int.toNat (i64.wrap (Aj+1))) a.1)),(0:Int)) h rfl (R2 (AI (fun _=>rfl) (R2 (AI TV (AI TV (OL (OL (OL ?_)))))))))
  obtain ⟨z9,h,q⟩:=bE q
  refine lJ h (fun x=>⟨[(4,P0 0 0),(12,P0 1 0),(91,O0 2),(92,.dat T0 (z8.length:Int)),(93,.dat T0 x.1)],[(0,.cells [N0,N0]),(1,.cells [(.osl 3),(.osl 4)]),(2,.arr 67 T10 z8),(3,.arr 3 T0 q10_10.2.1),(4,.arr 26 T0 x.2)],5⟩) (fun z=>[(4,⟨[(4,P0 0 0),(12,P0 1 0)],[(0,.cells [N0,N0]),(1,.cells [(.osl 2),(.osl 3)]),(2,.arr 3 T0 q10_10.2.1),(3,.arr 26 T0 z)],4⟩)]) (E4 (iuR [1,6,3,4,5]) (R3 (AI (R3 TV) (R5 TV)))) (fun m=>An (fun v93=>fun l4 z q=>?_)) ?_
  ·have q:f208_l5 z8 _ v93 l4=some z:=q
   unfold f208_l5 at q
   refine OL (OL (cI q (fun q=>?_) (fun q=>?_)))
   ·refine OL (OL (gI q (fun q=>?_)))
    refine OL (EI (tU 0 4 (.alt 4 (.take 5 (.alt 6 .done .done)) .done)) (EI [] (EI [] (AI rfl (AI TV ?_)))))
    obtain ⟨q16_4,h,q⟩:=bE q
    refine OL (cA H84 ((rd (Ty.z T10) z8 v93).1,(rd (Ty.z T10) z8 v93).2) h rfl (R2 (K0 (gI q (fun q=>?_)))))
    refine AI TV (OL (EI ((i64.wrap (v93+1)),(List.set l4 (Int.toNat v93) q16_4)) (AI q (E4 I5 (R3 (AI (R3 TV) (R5 TV)))))))
   cases sE q
   refine E4 (iuR [1,2,4,5]) (AI rfl (AI (R2 TV) (R4 TV)))
  refine AI (OL (OL ?_)) TV
  cases sE q
  refine AI rfl (E4 (iuR [3,4]) (R2 (AJ (R2 TV))))
 dsimp only [Ak] at q
 refine AI ?_ TV
 cases sE q
 refine AI rfl (E4 (iuR [0,0]) (R2 (AJ (R2 TV))))
theorem H208:HI C208 208:=hI Tryz.f208 rfl fun x=>V208 x.1 x.2
def f223_l1 (v:LI) (go:Bw→Option Ax) (v9 c1_0 c1_1:Int):Option Ax:=
 bif (decide (v9<v.length)) then
 Ad (0≤v9∧v9<v.length)<|
 Ac (f32 (rd 0 v v9)) fun q5_2=>
 Ac (f31 (c1_0,c1_1) (q5_2.1,q5_2.2)) fun q5_3=>
 go ((i64.wrap (v9+1)),q5_3.1,q5_3.2)
 else
 some (c1_0,c1_1)
def f223 (v:LI):Option Ax:=
 Ac (Ag (fun go x=>f223_l1 v go x.1 x.2.1 x.2.2) Ah ((0:Int),(0:Int),(0:Int))) fun z1=>
 some (z1.1,z1.2)
def C223:Con:=⟨LI,Ax,0,fun x=>[.dat T5 x],NX,fun x=>f223 x,fun y=>[.raw true [(.d T0 y.1),(.d T9 y.2)]],NX,0⟩
theorem V223 v y (q:f223 v=some y):VC Tryz.f223 C223 v y:=by
 unfold f223 at q
 refine OL (OL (OL (OL (OL ?_))))
 obtain ⟨z1,h,q⟩:=bE q
 refine lJ h (fun x=>⟨[(2,P0 0 0),(3,P0 1 0),(7,.dat T5 v),(8,.dat T0 (v.length:Int)),(9,.dat T0 x.1)],[(0,.cells [(.d T0 (0:Int)),(.d T9 (0:Int))]),(1,.cells [(.d T0 x.2.1),(.d T9 x.2.2)])],2⟩) (fun z=>[(2,⟨[(2,P0 0 0),(3,P0 1 0)],[(0,.cells [(.d T0 (0:Int)),(.d T9 (0:Int))]),(1,.cells [(.d T0 z.1),(.d T9 z.2)])],2⟩)]) (E4 I2 (R4 (AI (R2 TV) (R2 TV)))) (fun m=>An (fun v9=>An (fun c1_0=>fun c1_1 z q=>?_))) ?_
 ·have q:f223_l1 v _ v9 c1_0 c1_1=some z:=q
  unfold f223_l1 at q
  refine OL (OL (cI q (fun q=>?_) (fun q=>?_)))
  ·refine OL (OL (gI q (fun q=>?_)))
   refine EI (.take 0 (.take 1 (.alt 2 (.alt 3 (.alt 4 .done .done) .done) .done))) (EI [(4,[1])] (EI [] (AI rfl (AI TV ?_))))
   obtain ⟨q5_2,h,q⟩:=bE q
   refine OL (cA H32 (rd (0:Int) v v9) h rfl (AI rfl (K0 (AI TV ?_))))
   obtain ⟨q5_3,h,q⟩:=bE q
   refine OL (cA H31 ((c1_0,c1_1),(q5_2.1,q5_2.2)) h rfl (R4 (K0 (AI TV (OL (EI ((i64.wrap (v9+1)),q5_3.1,q5_3.2) (AI q (E4 I2 (R4 (AI (R2 TV) (R2 TV)))))))))))
  cases sE q
  refine E4 I2 (AI rfl (AI (R2 TV) (R2 TV)))
 refine AI (OL (OL ?_)) TV
 cases sE q
 refine AI rfl (E4 [] (AI rfl (AJ TV)))
theorem H223:HI C223 223:=hI Tryz.f223 rfl fun x=>V223 x
def f210 (a:Al):Option Ax:=
 Ac (f119 (a.1,a.2)) fun r1=>
 bif (!r1) then
 some ((0:Int),(1:Int))
 else
 Ac (f223 a.2) fun r2=>
 Ac (f84 (r2.1,r2.2)) fun r3=>
 some (r3,(0:Int))
def C210:Con:=⟨Al,Ax,0,fun x=>[.dat T8 x],NX,fun x=>f210 x,fun y=>[.dat T0 y.1,.dat T0 y.2],NX,0⟩
theorem V210 a y (q:f210 a=some y):VC Tryz.f210 C210 a y:=by
 unfold f210 at q
 refine OL (OL (OL ?_))
 obtain ⟨r1,h,q⟩:=bE q
 refine OL (cA H119 (a.1,a.2) h rfl (R2 (K0 (cI q (fun q=>?_) (fun q=>?_)))))
 ·cases sE q
  refine OL (AI rfl (E4 [] (R3 (AI TV TV))))
 refine OL ?_
 obtain ⟨r2,h,q⟩:=bE q
 refine OL (cA H223 a.2 h rfl (AI rfl (K0 ?_)))
 obtain ⟨r3,h,q⟩:=bE q
 refine OL (cA H84 (r2.1,r2.2) h rfl (R2 (K0 ?_)))
 cases sE q
 refine AI rfl (E4 [] (R3 (AI TV TV)))
theorem H210:HI C210 210:=hI Tryz.f210 rfl fun x=>V210 x
def f209 (x_ e:Int):Option Bl:=
 bif (e != 0) then
 some (e,[],[])
 else
 Ac (f75 ([]) x_) fun r1=>
 some (r1.1,r1.2.1,r1.2.2)
def C209:Con:=⟨Ax,Bl,0,fun x=>[.dat T0 x.1,.dat T0 x.2],NX,fun x=>f209 x.1 x.2,fun y=>[.raw true [(.osl 0),(.osl 1)],.dat T0 y.1],fun y=>[(0,.arr 3 T0 y.2.1),(1,.arr 26 T0 y.2.2)],2⟩
theorem V209 x_ e y (q:f209 x_ e=some y):VC Tryz.f209 C209 (x_,e) y:=by
 unfold f209 at q
 refine OL (OL (OL (cI q (fun q=>?_) (fun q=>?_))))
 ·refine OL (OL ?_)
  cases sE q
  refine AI rfl (E4 (iuR [0,0]) (R2 (AJ (R2 TV))))
 refine OL ?_
 obtain ⟨r1,h,q⟩:=bE q
 refine OL (cA H75 ([],x_) h rfl (R2 (K0 (OL ?_))))
 cases sE q
 refine AI rfl (E4 (iuR [2,3]) (R2 (AJ (R2 TV))))
theorem H209:HI C209 209:=hI Tryz.f209 rfl fun x=>V209 x.1 x.2
def f80_j1 (a b:Ax):Option Bool:=
 bif (decide (a.1<b.1)) then
 some true
 else
 bif (a.1==b.1) then
 some (decide (a.2<b.2))
 else
 some false
def f80 (a b:Ax):Option Int:=
 Ac (f80_j1 a b) fun z1=>
 bif z1 then
 some (-1:Int)
 else
 bif (a.1==b.1&&a.2==b.2) then
 some (0:Int)
 else
 some (1:Int)
def C80:Con:=⟨Ax×Ax,Int,0,fun x=>[.dat T10 x.1,.dat T10 x.2],NX,fun x=>f80 x.1 x.2,fun y=>[.dat T0 y],NX,0⟩
theorem V80 a b y (q:f80 a b=some y):VC Tryz.f80 C80 (a,b) y:=by
 unfold f80 at q
 refine OL (OL ?_)
 obtain ⟨z1,hz1,q⟩:=bE q
 refine OQ ⟨[(0,⟨[(2,P0 0 0),(3,P0 1 0),(5,.dat .bool z1)],[(0,.cells [(.d T0 a.1),(.d T9 a.2)]),(1,.cells [(.d T0 b.1),(.d T9 b.2)])],2⟩)],?_,?_⟩
 ·have q:=hz1
  clear hz1
  unfold f80_j1 at q
  refine cN q (fun q=>?_) (fun q=>?_)
  ·refine gY (gY (gY (gY (gY (cI q (fun q=>?_) (fun q=>?_))))))
   ·refine gX (gX (gX (gX (gY (cT (cF ?_))))))
    cases sE q
    refine E4 I2 (R2 (AI (R2 TV) (R2 TV)))
   refine gM (gM (gM (gM (gY (cF (cF ?_))))))
   cases sE q
   refine E4 I2 (R2 (AI (R2 TV) (R2 TV)))
  refine gN (gN (gN (gN (gN (gN (cT ?_))))))
  cases sE q
  refine E4 I2 (R2 (AI (R2 TV) (R2 TV)))
 refine AI (cI q (fun q=>?_) (fun q=>?_)) TV
 ·cases sE q
  refine OL (AI rfl (E4 [] (R2 (AI TV TV))))
 refine OL (AI ⟨by kernel_rfl,by kernel_rfl,by decide,by decide⟩ ?_)
 refine cI q (fun q=>?_) (fun q=>?_)
 ·cases sE q
  refine OL (AI rfl (E4 [] (R2 (AI TV TV))))
 cases sE q
 refine OL (AI rfl (E4 [] (R2 (AI TV TV))))
theorem H80:HI C80 80:=hI Tryz.f80 rfl fun x=>V80 x.1 x.2
def f154_s1:ByteArray:=⟨⟨[0,1,2,2,3,3,3,3,4,4,4,4,4,4,4,4,5,5,5,5,5,5,5,5,5,5,5,5,5,5,5,5,6,6,6,6,6,6,6,6,6,6,6,6,6,6,6,6,6,6,6,6,6,6,6,6,6,6,6,6,6,6,6,6,7,7,7,7,7,7,7,7,7,7,7,7,7,7,7,7,7,7,7,7,7,7,7,7,7,7,7,7,7,7,7,7,7,7,7,7,7,7,7,7,7,7,7,7,7,7,7,7,7,7,7,7,7,7,7,7,7,7,7,7,7,7,7,7,8,8,8,8,8,8,8,8,8,8,8,8,8,8,8,8,8,8,8,8,8,8,8,8,8,8,8,8,8,8,8,8,8,8,8,8,8,8,8,8,8,8,8,8,8,8,8,8,8,8,8,8,8,8,8,8,8,8,8,8,8,8,8,8,8,8,8,8,8,8,8,8,8,8,8,8,8,8,8,8,8,8,8,8,8,8,8,8,8,8,8,8,8,8,8,8,8,8,8,8,8,8,8,8,8,8,8,8,8,8,8,8,8,8,8,8,8,8,8,8,8,8,8,8,8,8,8,8]⟩⟩
def f154_j1 (x_:Int):Option Ax:=
 bif (decide (x_≥4294967296)) then
 some ((Int.fdiv x_ (2 ^ min (Int.toNat (32:Int)) u64.bits)),(32:Int))
 else
 some (x_,(0:Int))
def f154_j2 (z1:Ax):Option Ax:=
 bif (decide (z1.1≥65536)) then
 some ((Int.fdiv z1.1 (2 ^ min (Int.toNat (16:Int)) u64.bits)),(i64.wrap (z1.2+16)))
 else
 some (z1.1,z1.2)
def f154_j3 (z2:Ax):Option Ax:=
 bif (decide (z2.1≥256)) then
 some ((Int.fdiv z2.1 (2 ^ min (Int.toNat (8:Int)) u64.bits)),(i64.wrap (z2.2+8)))
 else
 some (z2.1,z2.2)
def f154 (x_:Int):Option Int:=
 Ac (f154_j1 x_) fun z1=>
 Ac (f154_j2 z1) fun z2=>
 Ac (f154_j3 z2) fun z3=>
 Ad (0≤(u8.wrap z3.1)∧(u8.wrap z3.1)<(ByteArray.size f154_s1:Int))<|
 some (i64.wrap (z3.2+(i64.wrap (bt f154_s1 (u8.wrap z3.1)))))
def C154:Con:=⟨Int,Int,0,fun x=>[.dat T9 x],NX,fun x=>f154 x,fun y=>[.dat T0 y],NX,0⟩
theorem V154 x_ y (q:f154 x_=some y):VC Tryz.f154 C154 x_ y:=by
 unfold f154 at q
 refine OL ?_
 obtain ⟨z1,hz1,q⟩:=bE q
 refine OQ ⟨[(0,⟨[(0,.dat T9 z1.1),(2,.dat T0 z1.2)],[],0⟩)],?_,?_⟩
 ·have q:=hz1
  clear hz1
  unfold f154_j1 at q
  refine OL (cI q (fun q=>?_) (fun q=>?_))
  ·refine OL (AI (by decide) ?_)
   cases sE q
   refine E4 [] (R3 (AI TV TV))
  cases sE q
  refine E4 [] (R3 (AI TV TV))
 refine AI ?_ TV
 obtain ⟨z2,hz2,q⟩:=bE q
 refine OQ ⟨[(0,⟨[(0,.dat T9 z2.1),(2,.dat T0 z2.2)],[],0⟩)],?_,?_⟩
 ·have q:=hz2
  clear hz2
  unfold f154_j2 at q
  refine OL (cI q (fun q=>?_) (fun q=>?_))
  ·refine OL (AI (by decide) ?_)
   cases sE q
   refine E4 [] (R3 (AI TV TV))
  cases sE q
  refine E4 [] (R3 (AI TV TV))
 refine AI ?_ TV
 obtain ⟨z3,hz3,q⟩:=bE q
 refine OQ ⟨[(0,⟨[(0,.dat T9 z3.1),(2,.dat T0 z3.2)],[],0⟩)],?_,?_⟩
 ·have q:=hz3
  clear hz3
  unfold f154_j3 at q
  refine OL (cI q (fun q=>?_) (fun q=>?_))
  ·refine OL (AI (by decide) ?_)
   cases sE q
   refine E4 [] (R3 (AI TV TV))
  cases sE q
  refine E4 [] (R3 (AI TV TV))
 refine AI (OL (gI q (fun q=>?_))) TV
 cases sE q
 refine AI rfl (E4 [] (R2 (AI TV TV)))
theorem H154:HI C154 154:=hI Tryz.f154 rfl fun x=>V154 x
def f124 (x_:Int):Option Int:=
 Ac (f154 x_) fun r1=>
 some (i64.wrap ((64:Int)-r1))
def C124:Con:=⟨Int,Int,0,fun x=>[.dat T9 x],NX,fun x=>f124 x,fun y=>[.dat T0 y],NX,0⟩
theorem V124 x_ y (q:f124 x_=some y):VC Tryz.f124 C124 x_ y:=by
 unfold f124 at q
 refine OL (OL ?_)
 obtain ⟨r1,h,q⟩:=bE q
 refine OL (cA H154 x_ h rfl (AI rfl (K0 ?_)))
 cases sE q
 refine AI rfl (E4 [] (R2 (AI TV TV)))
theorem H124:HI C124 124:=hI Tryz.f124 rfl fun x=>V124 x
def f83_j4 (lo y_ q6_7 q1 rhat:Int):Option (Sum Unit Unit):=
 bif (decide (q1≥4294967296)) then
 some (Sum.inl ())
 else
 bif (decide ((u64.wrap (q1*(Af IntKind.u64 (fun p q=>p&&& q) (u64.wrap (y_*2 ^ min (Int.toNat (u64.wrap q6_7)) u64.bits)) (4294967295:Int))))>(u64.wrap ((u64.wrap ((4294967296:Int)*rhat))+(Int.fdiv (u64.wrap (lo*2 ^ min (Int.toNat (u64.wrap q6_7)) u64.bits)) (2 ^ min (Int.toNat (32:Int)) u64.bits)))))) then
 some (Sum.inl ())
 else
 some (Sum.inr ())
def f83_l3 (lo y_ q6_7:Int) (go:Ax→Option Int) (q1 rhat:Int):Option Int:=
 Ac (f83_j4 lo y_ q6_7 q1 rhat) fun z4=>
 Ak z4 (fun z4a=>
 bif (decide ((u64.wrap (rhat+(Int.fdiv (u64.wrap (y_*2 ^ min (Int.toNat (u64.wrap q6_7)) u64.bits)) (2 ^ min (Int.toNat (32:Int)) u64.bits))))≥4294967296)) then
 some (u64.wrap (q1-1))
 else
 go ((u64.wrap (q1-1)),(u64.wrap (rhat+(Int.fdiv (u64.wrap (y_*2 ^ min (Int.toNat (u64.wrap q6_7)) u64.bits)) (2 ^ min (Int.toNat (32:Int)) u64.bits)))))) (fun z4b=>
 some q1)
def f83_j8 (lo y_ q6_7 rhat q0:Int):Option (Sum Unit Unit):=
 bif (decide (q0≥4294967296)) then
 some (Sum.inl ())
 else
 bif (decide ((u64.wrap (q0*(Af IntKind.u64 (fun p q=>p&&& q) (u64.wrap (y_*2 ^ min (Int.toNat (u64.wrap q6_7)) u64.bits)) (4294967295:Int))))>(u64.wrap ((u64.wrap ((4294967296:Int)*rhat))+(Af IntKind.u64 (fun p q=>p&&& q) (u64.wrap (lo*2 ^ min (Int.toNat (u64.wrap q6_7)) u64.bits)) (4294967295:Int)))))) then
 some (Sum.inl ())
 else
 some (Sum.inr ())
def f83_l7 (lo y_ q6_7:Int) (go:Ax→Option Int) (rhat q0:Int):Option Int:=
 Ac (f83_j8 lo y_ q6_7 rhat q0) fun z8=>
 Ak z8 (fun z8a=>
 bif (decide ((u64.wrap (rhat+(Int.fdiv (u64.wrap (y_*2 ^ min (Int.toNat (u64.wrap q6_7)) u64.bits)) (2 ^ min (Int.toNat (32:Int)) u64.bits))))≥4294967296)) then
 some (u64.wrap (q0-1))
 else
 go ((u64.wrap (rhat+(Int.fdiv (u64.wrap (y_*2 ^ min (Int.toNat (u64.wrap q6_7)) u64.bits)) (2 ^ min (Int.toNat (32:Int)) u64.bits)))),(u64.wrap (q0-1)))) (fun z8b=>
 some q0)
def f83 (hi lo y_:Int):Option Ax:=
 bif (y_==0) then
 none
 else
 bif (decide (y_≤hi)) then
 none
 else
 bif (hi==0) then
 Ad (y_≠0)<|
 Ad (y_≠0)<|
 some ((u64.wrap (Int.tdiv lo y_)),(Int.tmod lo y_))
 else
 Ac (f124 y_) fun q6_7=>
 Ad (0≤(u64.wrap q6_7))<|
 Ad (0≤(u64.wrap q6_7))<|
 Ad (0≤(u64.wrap ((64:Int)-(u64.wrap q6_7))))<|
 Ad (0≤(u64.wrap q6_7))<|
 Ad ((Int.fdiv (u64.wrap (y_*2 ^ min (Int.toNat (u64.wrap q6_7)) u64.bits)) (2 ^ min (Int.toNat (32:Int)) u64.bits))≠0)<|
 Ac (Ag (fun go x=>f83_l3 lo y_ q6_7 go x.1 x.2) Ah ((u64.wrap (Int.tdiv (Af IntKind.u64 (fun p q=>p||| q) (u64.wrap (hi*2 ^ min (Int.toNat (u64.wrap q6_7)) u64.bits)) (Int.fdiv lo (2 ^ min (Int.toNat (u64.wrap ((64:Int)-(u64.wrap q6_7)))) u64.bits))) (Int.fdiv (u64.wrap (y_*2 ^ min (Int.toNat (u64.wrap q6_7)) u64.bits)) (2 ^ min (Int.toNat (32:Int)) u64.bits)))),(u64.wrap ((Af IntKind.u64 (fun p q=>p||| q) (u64.wrap (hi*2 ^ min (Int.toNat (u64.wrap q6_7)) u64.bits)) (Int.fdiv lo (2 ^ min (Int.toNat (u64.wrap ((64:Int)-(u64.wrap q6_7)))) u64.bits)))-(u64.wrap ((u64.wrap (Int.tdiv (Af IntKind.u64 (fun p q=>p||| q) (u64.wrap (hi*2 ^ min (Int.toNat (u64.wrap q6_7)) u64.bits)) (Int.fdiv lo (2 ^ min (Int.toNat (u64.wrap ((64:Int)-(u64.wrap q6_7)))) u64.bits))) (Int.fdiv (u64.wrap (y_*2 ^ min (Int.toNat (u64.wrap q6_7)) u64.bits)) (2 ^ min (Int.toNat (32:Int)) u64.bits))))*(Int.fdiv (u64.wrap (y_*2 ^ min (Int.toNat (u64.wrap q6_7)) u64.bits)) (2 ^ min (Int.toNat (32:Int)) u64.bits)))))))) fun z3=>
 Ad ((Int.fdiv (u64.wrap (y_*2 ^ min (Int.toNat (u64.wrap q6_7)) u64.bits)) (2 ^ min (Int.toNat (32:Int)) u64.bits))≠0)<|
 Ac (Ag (fun go x=>f83_l7 lo y_ q6_7 go x.1 x.2) Ah ((u64.wrap ((u64.wrap ((u64.wrap ((u64.wrap ((Af IntKind.u64 (fun p q=>p||| q) (u64.wrap (hi*2 ^ min (Int.toNat (u64.wrap q6_7)) u64.bits)) (Int.fdiv lo (2 ^ min (Int.toNat (u64.wrap ((64:Int)-(u64.wrap q6_7)))) u64.bits)))*4294967296))+(Int.fdiv (u64.wrap (lo*2 ^ min (Int.toNat (u64.wrap q6_7)) u64.bits)) (2 ^ min (Int.toNat (32:Int)) u64.bits))))-(u64.wrap (z3*(u64.wrap (y_*2 ^ min (Int.toNat (u64.wrap q6_7)) u64.bits))))))-(u64.wrap ((u64.wrap (Int.tdiv (u64.wrap ((u64.wrap ((u64.wrap ((Af IntKind.u64 (fun p q=>p||| q) (u64.wrap (hi*2 ^ min (Int.toNat (u64.wrap q6_7)) u64.bits)) (Int.fdiv lo (2 ^ min (Int.toNat (u64.wrap ((64:Int)-(u64.wrap q6_7)))) u64.bits)))*4294967296))+(Int.fdiv (u64.wrap (lo*2 ^ min (Int.toNat (u64.wrap q6_7)) u64.bits)) (2 ^ min (Int.toNat (32:Int)) u64.bits))))-(u64.wrap (z3*(u64.wrap (y_*2 ^ min (Int.toNat (u64.wrap q6_7)) u64.bits)))))) (Int.fdiv (u64.wrap (y_*2 ^ min (Int.toNat (u64.wrap q6_7)) u64.bits)) (2 ^ min (Int.toNat (32:Int)) u64.bits))))*(Int.fdiv (u64.wrap (y_*2 ^ min (Int.toNat (u64.wrap q6_7)) u64.bits)) (2 ^ min (Int.toNat (32:Int)) u64.bits)))))),(u64.wrap (Int.tdiv (u64.wrap ((u64.wrap ((u64.wrap ((Af IntKind.u64 (fun p q=>p||| q) (u64.wrap (hi*2 ^ min (Int.toNat (u64.wrap q6_7)) u64.bits)) (Int.fdiv lo (2 ^ min (Int.toNat (u64.wrap ((64:Int)-(u64.wrap q6_7)))) u64.bits)))*4294967296))+(Int.fdiv (u64.wrap (lo*2 ^ min (Int.toNat (u64.wrap q6_7)) u64.bits)) (2 ^ min (Int.toNat (32:Int)) u64.bits))))-(u64.wrap (z3*(u64.wrap (y_*2 ^ min (Int.toNat (u64.wrap q6_7)) u64.bits)))))) (Int.fdiv (u64.wrap (y_*2 ^ min (Int.toNat (u64.wrap q6_7)) u64.bits)) (2 ^ min (Int.toNat (32:Int)) u64.bits)))))) fun z7=>
 Ad (0≤(u64.wrap q6_7))<|
 some ((u64.wrap ((u64.wrap (z3*4294967296))+z7)),(Int.fdiv (u64.wrap ((u64.wrap ((u64.wrap ((u64.wrap ((u64.wrap ((u64.wrap ((Af IntKind.u64 (fun p q=>p||| q) (u64.wrap (hi*2 ^ min (Int.toNat (u64.wrap q6_7)) u64.bits)) (Int.fdiv lo (2 ^ min (Int.toNat (u64.wrap ((64:Int)-(u64.wrap q6_7)))) u64.bits)))*4294967296))+(Int.fdiv (u64.wrap (lo*2 ^ min (Int.toNat (u64.wrap q6_7)) u64.bits)) (2 ^ min (Int.toNat (32:Int)) u64.bits))))-(u64.wrap (z3*(u64.wrap (y_*2 ^ min (Int.toNat (u64.wrap q6_7)) u64.bits))))))*4294967296))+(Af IntKind.u64 (fun p q=>p&&& q) (u64.wrap (lo*2 ^ min (Int.toNat (u64.wrap q6_7)) u64.bits)) (4294967295:Int))))-(u64.wrap (z7*(u64.wrap (y_*2 ^ min (Int.toNat (u64.wrap q6_7)) u64.bits)))))) (2 ^ min (Int.toNat (u64.wrap q6_7)) u64.bits)))
def C83:Con:=⟨Bw,Ax,0,fun x=>[.dat T9 x.1,.dat T9 x.2.1,.dat T9 x.2.2],NX,fun x=>f83 x.1 x.2.1 x.2.2,fun y=>[.dat T9 y.1,.dat T9 y.2],NX,0⟩
theorem V83 hi lo y_ y (q:f83 hi lo y_=some y):VC Tryz.f83 C83 (hi,lo,y_) y:=by
 unfold f83 at q
 refine OL (OL (OL (cI q (fun q=>?_) (fun q=>?_))))
 ·exact nomatch q
 refine OL (OL (cI q (fun q=>?_) (fun q=>?_)))
 ·exact nomatch q
 refine OL (OL (cI q (fun q=>?_) (fun q=>?_)))
 ·refine OL (EI (tU 0 8 .done) (EI [] (EI [] (AI rfl (gI q (fun q=>?_))))))
  refine gI q (fun q=>?_)
  cases sE q
  refine AI rfl (E4 [] (R3 (AI TV TV)))
 refine OL ?_
 obtain ⟨q6_7,h,q⟩:=bE q
 refine OL (cA H124 y_ h rfl (AI rfl (K0 (OL (gI q (fun q=>?_))))))
 refine OL (AI (by decide) (OL (OL (gI q (fun q=>?_)))))
 refine gI q (fun q=>?_)
 refine OL (gI q (fun q=>?_))
 refine OL (AI (by decide) (OL (OL (gI q (fun q=>?_)))))
 refine OL (OL ?_)
 obtain ⟨z3,hz3,q⟩:=bE q
 let e0:LE:=fun zz=>(2,.dat T9 (u64.wrap (y_*2 ^ min (Int.toNat (u64.wrap q6_7)) u64.bits)))::(8,.dat T9 (u64.wrap q6_7))::zz
 let e1:LE:=fun zz=>e0 ((9,.dat T9 (Int.fdiv (u64.wrap (y_*2 ^ min (Int.toNat (u64.wrap q6_7)) u64.bits)) (2 ^ min (Int.toNat (32:Int)) u64.bits)))::(10,.dat T9 (Af IntKind.u64 (fun p q=>p&&& q) (u64.wrap (y_*2 ^ min (Int.toNat (u64.wrap q6_7)) u64.bits)) (4294967295:Int)))::zz)
 let e2:LE:=fun zz=>e1 ((11,.dat T9 (Af IntKind.u64 (fun p q=>p||| q) (u64.wrap (hi*2 ^ min (Int.toNat (u64.wrap q6_7)) u64.bits)) (Int.fdiv lo (2 ^ min (Int.toNat (u64.wrap ((64:Int)-(u64.wrap q6_7)))) u64.bits))))::(13,.dat T9 (Int.fdiv (u64.wrap (lo*2 ^ min (Int.toNat (u64.wrap q6_7)) u64.bits)) (2 ^ min (Int.toNat (32:Int)) u64.bits)))::(14,.dat T9 (Af IntKind.u64 (fun p q=>p&&& q) (u64.wrap (lo*2 ^ min (Int.toNat (u64.wrap q6_7)) u64.bits)) (4294967295:Int)))::zz)
 refine lJ hz3 (fun x=>⟨e2 [(15,.dat T9 x.1),(16,.dat T9 x.2)],[],0⟩) (fun z=>[(2,⟨e2 [(15,.dat T9 z)],[],0⟩)]) (E4 [] (R10 (AI TV TV))) (fun m=>An (fun q1=>fun rhat z q=>?_)) ?_
 ·have q:f83_l3 lo y_ q6_7 _ q1 rhat=some z:=q
  unfold f83_l3 at q
  obtain ⟨z4,hz4,q⟩:=bE q
  refine OQ ⟨Sum.elim (fun z4a=>[(0,⟨e2 [(15,.dat T9 q1),(16,.dat T9 rhat)],[],0⟩)]) (fun z4b=>[(2,⟨e2 [(15,.dat T9 q1)],[],0⟩)]) z4,?_,?_⟩
  ·have q:=hz4
   clear hz4
   unfold f83_j4 at q
   refine OL (cN q (fun q=>?_) (fun q=>?_))
   ·refine gY (gY (gY (gY (gY (gY (gY (cF (cI q (fun q=>?_) (fun q=>?_)))))))))
    ·cases sE q
     refine E4 [] (R10 (AI TV TV))
    cases sE q
    refine E4 [] (R9 (AI TV TV))
   refine gN (gN (gN (gN (gN (gN (gN (cT (cT ?_))))))))
   cases sE q
   refine E4 [] (R10 (AI TV TV))
  rcases z4 with z4a | z4b
  ·dsimp only [Ak] at q
   refine AI (OL (OL (OL (cI q (fun q=>?_) (fun q=>?_))))) TV
   ·cases sE q
    refine E4 [] (R9 (AI TV TV))
   refine EI ((u64.wrap (q1-1)),(u64.wrap (rhat+(Int.fdiv (u64.wrap (y_*2 ^ min (Int.toNat (u64.wrap q6_7)) u64.bits)) (2 ^ min (Int.toNat (32:Int)) u64.bits))))) (AI q (E4 [] (R10 (AI TV TV))))
  dsimp only [Ak] at q
  refine AI ?_ TV
  cases sE q
  refine E4 [] (R9 (AI TV TV))
 refine AI (OL (OL (gI q (fun q=>?_)))) TV
 refine OL (OL ?_)
 obtain ⟨z7,hz7,q⟩:=bE q
 let e3:LE:=fun zz=>e1 ((14,.dat T9 (Af IntKind.u64 (fun p q=>p&&& q) (u64.wrap (lo*2 ^ min (Int.toNat (u64.wrap q6_7)) u64.bits)) (4294967295:Int)))::(15,.dat T9 z3)::zz)
 let e4:LE:=fun zz=>e0 ((14,.dat T9 (Af IntKind.u64 (fun p q=>p&&& q) (u64.wrap (lo*2 ^ min (Int.toNat (u64.wrap q6_7)) u64.bits)) (4294967295:Int)))::(15,.dat T9 z3)::(17,.dat T9 (u64.wrap ((u64.wrap ((u64.wrap ((Af IntKind.u64 (fun p q=>p||| q) (u64.wrap (hi*2 ^ min (Int.toNat (u64.wrap q6_7)) u64.bits)) (Int.fdiv lo (2 ^ min (Int.toNat (u64.wrap ((64:Int)-(u64.wrap q6_7)))) u64.bits)))*4294967296))+(Int.fdiv (u64.wrap (lo*2 ^ min (Int.toNat (u64.wrap q6_7)) u64.bits)) (2 ^ min (Int.toNat (32:Int)) u64.bits))))-(u64.wrap (z3*(u64.wrap (y_*2 ^ min (Int.toNat (u64.wrap q6_7)) u64.bits)))))))::zz)
 refine lJ hz7 (fun x=>⟨e3 [(16,.dat T9 x.1),(17,.dat T9 (u64.wrap ((u64.wrap ((u64.wrap ((Af IntKind.u64 (fun p q=>p||| q) (u64.wrap (hi*2 ^ min (Int.toNat (u64.wrap q6_7)) u64.bits)) (Int.fdiv lo (2 ^ min (Int.toNat (u64.wrap ((64:Int)-(u64.wrap q6_7)))) u64.bits)))*4294967296))+(Int.fdiv (u64.wrap (lo*2 ^ min (Int.toNat (u64.wrap q6_7)) u64.bits)) (2 ^ min (Int.toNat (32:Int)) u64.bits))))-(u64.wrap (z3*(u64.wrap (y_*2 ^ min (Int.toNat (u64.wrap q6_7)) u64.bits))))))),(18,.dat T9 x.2)],[],0⟩) (fun z=>[(4,⟨e4 [(18,.dat T9 z)],[],0⟩)]) (E4 [] (R10 (AI TV TV))) (fun m=>An (fun rhat=>fun q0 z q=>?_)) ?_
 ·have q:f83_l7 lo y_ q6_7 _ rhat q0=some z:=q
  unfold f83_l7 at q
  obtain ⟨z8,hz8,q⟩:=bE q
  refine OQ ⟨Sum.elim (fun z8a=>[(0,⟨e3 [(16,.dat T9 rhat),(17,.dat T9 (u64.wrap ((u64.wrap ((u64.wrap ((Af IntKind.u64 (fun p q=>p||| q) (u64.wrap (hi*2 ^ min (Int.toNat (u64.wrap q6_7)) u64.bits)) (Int.fdiv lo (2 ^ min (Int.toNat (u64.wrap ((64:Int)-(u64.wrap q6_7)))) u64.bits)))*4294967296))+(Int.fdiv (u64.wrap (lo*2 ^ min (Int.toNat (u64.wrap q6_7)) u64.bits)) (2 ^ min (Int.toNat (32:Int)) u64.bits))))-(u64.wrap (z3*(u64.wrap (y_*2 ^ min (Int.toNat (u64.wrap q6_7)) u64.bits))))))),(18,.dat T9 q0)],[],0⟩)]) (fun z8b=>[(4,⟨e4 [(18,.dat T9 q0)],[],0⟩)]) z8,?_,?_⟩
  ·have q:=hz8
   clear hz8
   unfold f83_j8 at q
   refine OL (cN q (fun q=>?_) (fun q=>?_))
   ·refine gY (gY (gY (gY (gY (gY (gY (cF (cI q (fun q=>?_) (fun q=>?_)))))))))
    ·cases sE q
     refine E4 [] (R10 (AI TV TV))
    cases sE q
    refine E4 [] (R7 (AI TV TV))
   refine gN (gN (gN (gN (gN (gN (gN (cT (cT ?_))))))))
   cases sE q
   refine E4 [] (R10 (AI TV TV))
  rcases z8 with z8a | z8b
  ·dsimp only [Ak] at q
   refine AI (OL (OL (OL (cI q (fun q=>?_) (fun q=>?_))))) TV
   ·cases sE q
    refine E4 [] (R7 (AI TV TV))
   refine EI ((u64.wrap (rhat+(Int.fdiv (u64.wrap (y_*2 ^ min (Int.toNat (u64.wrap q6_7)) u64.bits)) (2 ^ min (Int.toNat (32:Int)) u64.bits)))),(u64.wrap (q0-1))) (AI q (E4 [] (R10 (AI TV TV))))
  dsimp only [Ak] at q
  refine AI ?_ TV
  cases sE q
  refine E4 [] (R7 (AI TV TV))
 refine AI (OL (gI q (fun q=>?_))) TV
 cases sE q
 refine AI rfl (E4 [] (R3 (AI TV TV)))
theorem H83:HI C83 83:=hI Tryz.f83 rfl fun x=>V83 x.1 x.2.1 x.2.2
def f79_j3 (r2:Int) (r4:Ax):Option Bool:=
 bif (decide (r4.2>(u64.wrap (r2-r4.2)))) then
 some true
 else
 bif (r4.2==(u64.wrap (r2-r4.2))) then
 some ((Af IntKind.u64 (fun p q=>p&&& q) r4.1 (1:Int))==1)
 else
 some false
def f79_j2 (r2:Int) (r4:Ax):Option Ax:=
 Ac (f79_j3 r2 r4) fun z8=>
 bif z8 then
 Ac (Es r4.1 (1:Int) (0:Int)) fun r9=>
 some (r9.1,r9.2)
 else
 some (r4.1,(0:Int))
def f79 (a b:Int):Option Int:=
 bif (b==0) then
 bif (decide (a>0)) then
 some (9223372036854775807:Int)
 else
 bif (decide (a<0)) then
 some (-9223372036854775808:Int)
 else
 some (0:Int)
 else
 Ac (f51 a) fun r1=>
 Ac (f51 b) fun r2=>
 bif (decide ((Int.fdiv r1 (2 ^ min (Int.toNat (32:Int)) u64.bits))≥r2)) then
 Ac (f52 (1:Int) (0:Int) (!((decide (a<0))==(decide (b<0))))) fun r3=>
 some r3
 else
 Ac (f83 (Int.fdiv r1 (2 ^ min (Int.toNat (32:Int)) u64.bits)) (u64.wrap (r1*2 ^ min (Int.toNat (32:Int)) u64.bits)) r2) fun r4=>
 Ac (f79_j2 r2 r4) fun z7=>
 Ac (f52 z7.2 z7.1 (!((decide (a<0))==(decide (b<0))))) fun r10=>
 some r10
def C79:Con:=⟨Ax,Int,0,fun x=>[.dat T0 x.1,.dat T0 x.2],NX,fun x=>f79 x.1 x.2,fun y=>[.dat T0 y],NX,0⟩
theorem V79 a b y (q:f79 a b=some y):VC Tryz.f79 C79 (a,b) y:=by
 unfold f79 at q
 refine OL (OL (OL (cI q (fun q=>?_) (fun q=>?_))))
 ·refine OL (OL (cI q (fun q=>?_) (fun q=>?_)))
  ·cases sE q
   refine OL (AI rfl (E4 [] (R2 (AI TV TV))))
  refine OL (cI q (fun q=>?_) (fun q=>?_))
  ·cases sE q
   refine OL (AI rfl (E4 [] (R2 (AI TV TV))))
  cases sE q
  refine OL (AI rfl (E4 [] (R2 (AI TV TV))))
 refine OL ?_
 obtain ⟨r1,h,q⟩:=bE q
 refine OL (cA H51 a h rfl (AI rfl (K0 ?_)))
 obtain ⟨r2,h,q⟩:=bE q
 refine OL (cA H51 b h rfl (AI rfl (K0 (OL (OL (AI (by decide) (AI (by decide) (OL (OL (cI q (fun q=>?_) (fun q=>?_)))))))))))
 ·refine OL ?_
  obtain ⟨r3,h,q⟩:=bE q
  refine OL (cA H52 ((1:Int),(0:Int),(!((decide (a<0))==(decide (b<0))))) h rfl (R3 (K0 ?_)))
  cases sE q
  refine AI rfl (E4 [] (R2 (AI TV TV)))
 refine OL ?_
 obtain ⟨r4,h,q⟩:=bE q
 refine OL (cA H83 ((Int.fdiv r1 (2 ^ min (Int.toNat (32:Int)) u64.bits)),(u64.wrap (r1*2 ^ min (Int.toNat (32:Int)) u64.bits)),r2) h rfl (R3 (K0 (OL ?_))))
 obtain ⟨z7,hz7,q⟩:=bE q
 let e0:LE:=fun zz=>(7,.dat .bool (!((decide (a<0))==(decide (b<0)))))::zz
 refine OQ ⟨[(0,⟨e0 [(10,.dat T9 z7.1),(12,.dat T9 z7.2)],[],0⟩)],?_,?_⟩
 ·have q:=hz7
  clear hz7
  unfold f79_j2 at q
  obtain ⟨z8,hz8,q⟩:=bE q
  refine OQ ⟨[(0,⟨e0 [(10,.dat T9 r4.1),(12,.dat T9 (0:Int)),(62,.dat .bool z8)],[],0⟩)],?_,?_⟩
  ·have q:=hz8
   clear hz8
   unfold f79_j3 at q
   refine cN q (fun q=>?_) (fun q=>?_)
   ·refine gY (gY (gY (gY (gY (cI q (fun q=>?_) (fun q=>?_))))))
    ·refine gX (gX (gY (cT (cF ?_))))
     cases sE q
     refine E4 [] (R5 (AI TV TV))
    refine gM (gM (gY (cF (cF ?_))))
    cases sE q
    refine E4 [] (R5 (AI TV TV))
   refine gN (gN (gN (gN (gN (gN (cT ?_))))))
   cases sE q
   refine E4 [] (R5 (AI TV TV))
  refine AI (cI q (fun q=>?_) (fun q=>?_)) TV
  ·obtain ⟨r9,h,q⟩:=bE q
   refine OQ ⟨ext3 Es,[r9.1,r9.2],Er,AI (ext3I h) ?_⟩
   cases sE q
   refine E4 [] (R4 (AI TV TV))
  cases sE q
  refine E4 [] (R4 (AI TV TV))
 refine AI (OL ?_) TV
 obtain ⟨r10,h,q⟩:=bE q
 refine OL (cA H52 (z7.2,z7.1,(!((decide (a<0))==(decide (b<0))))) h rfl (R3 (K0 ?_)))
 cases sE q
 refine AI rfl (E4 [] (R2 (AI TV TV)))
theorem H79:HI C79 79:=hI Tryz.f79 rfl fun x=>V79 x.1 x.2
def f81 (a:Ax):Option (Int×Ea):=
 bif (decide (a.1<0)) then
 Ac (f85 (a.1,a.2)) fun q4_7=>
 some ((u64.wrap q4_7.1),q4_7.2,true)
 else
 some ((u64.wrap a.1),a.2,false)
def C81:Con:=⟨Ax,Int×Ea,0,fun x=>[.dat T10 x],NX,fun x=>f81 x,fun y=>[.dat T9 y.1,.dat T9 y.2.1,.dat .bool y.2.2],NX,0⟩
theorem V81 a y (q:f81 a=some y):VC Tryz.f81 C81 a y:=by
 unfold f81 at q
 refine OL (OL (OL (cI q (fun q=>?_) (fun q=>?_))))
 ·refine OL ?_
  obtain ⟨q4_7,h,q⟩:=bE q
  refine OL (cA H85 (a.1,a.2) h rfl (R2 (K0 (OL (OL (EI (tU 0 8 .done) (EI [] (EI [] (AI rfl ?_)))))))))
  cases sE q
  refine AI rfl (E4 [] (R4 (AI TV TV)))
 refine OL (EI (tU 0 8 .done) (EI [] (EI [] (AI rfl ?_))))
 cases sE q
 refine AI rfl (E4 [] (R4 (AI TV TV)))
theorem H81:HI C81 81:=hI Tryz.f81 rfl fun x=>V81 x
def f53_j3 (r4:Int) (q6_7:Ax):Option Bool:=
 bif (decide (q6_7.2>(u64.wrap (r4-q6_7.2)))) then
 some true
 else
 bif (q6_7.2==(u64.wrap (r4-q6_7.2))) then
 some ((Af IntKind.u64 (fun p q=>p&&& q) q6_7.1 (1:Int))==1)
 else
 some false
def f53_j2 (r3:Int×Ea) (r4:Int) (q6_7:Ax):Option Ax:=
 Ac (f53_j3 r4 q6_7) fun z8=>
 bif z8 then
 Ac (Es q6_7.1 (1:Int) (0:Int)) fun r9=>
 some ((u64.wrap ((u64.wrap (Int.tdiv r3.1 r4))+r9.2)),r9.1)
 else
 some ((u64.wrap (Int.tdiv r3.1 r4)),q6_7.1)
def f53 (a:Ax) (n:Int):Option Int:=
 bif (n==0) then
 Ac (f80 (a.1,a.2) ((0:Int),(0:Int))) fun r1=>
 Ac (f79 r1 (0:Int)) fun r2=>
 some r2
 else
 Ac (f81 (a.1,a.2)) fun r3=>
 Ac (f82 n) fun r4=>
 Ad (r4≠0)<|
 Ad (r4≠0)<|
 Ac (f83 (Int.tmod r3.1 r4) r3.2.1 r4) fun q6_7=>
 Ac (f53_j2 r3 r4 q6_7) fun z7=>
 bif (!(r3.2.2==(decide (n<0)))) then
 Ac (f85 ((i64.wrap (if (9223372036854775807:Int)<z7.1 then (9223372036854775807:Int) else z7.1)),z7.2)) fun r10=>
 Ac (f84 (r10.1,r10.2)) fun r11=>
 some r11
 else
 Ac (f84 ((i64.wrap (if (9223372036854775807:Int)<z7.1 then (9223372036854775807:Int) else z7.1)),z7.2)) fun r12=>
 some r12
def C53:Con:=⟨Ax×Int,Int,0,fun x=>[.dat T10 x.1,.dat T0 x.2],NX,fun x=>f53 x.1 x.2,fun y=>[.dat T0 y],NX,0⟩
theorem V53 a n y (q:f53 a n=some y):VC Tryz.f53 C53 (a,n) y:=by
 unfold f53 at q
 refine OL (OL (OL (cI q (fun q=>?_) (fun q=>?_))))
 ·refine OL ?_
  obtain ⟨r1,h,q⟩:=bE q
  refine OL (cA H80 ((a.1,a.2),((0:Int),(0:Int))) h rfl (R4 (K0 ?_)))
  obtain ⟨r2,h,q⟩:=bE q
  refine OL (cA H79 (r1,(0:Int)) h rfl (R2 (K0 ?_)))
  cases sE q
  refine AI rfl (E4 [] (R2 (AI TV TV)))
 refine OL ?_
 obtain ⟨r3,h,q⟩:=bE q
 refine OL (cA H81 (a.1,a.2) h rfl (R2 (K0 (OL ?_))))
 obtain ⟨r4,h,q⟩:=bE q
 refine OL (cA H82 n h rfl (AI rfl (K0 (OL (OL (EI (tU 0 8 .done) (EI [] (EI [] (AI rfl (gI q (fun q=>?_)))))))))))
 refine gI q (fun q=>?_)
 refine OL ?_
 obtain ⟨q6_7,h,q⟩:=bE q
 refine OL (cA H83 ((Int.tmod r3.1 r4),r3.2.1,r4) h rfl (R3 (K0 ?_)))
 obtain ⟨z7,hz7,q⟩:=bE q
 refine OQ ⟨[(0,⟨[(7,.dat .bool (!(r3.2.2==(decide (n<0))))),(9,.dat T9 z7.1),(11,.dat T9 z7.2)],[],0⟩)],?_,?_⟩
 ·have q:=hz7
  clear hz7
  unfold f53_j2 at q
  obtain ⟨z8,hz8,q⟩:=bE q
  refine OQ ⟨[(0,⟨[(7,.dat .bool (!(r3.2.2==(decide (n<0))))),(9,.dat T9 (u64.wrap (Int.tdiv r3.1 r4))),(11,.dat T9 q6_7.1),(61,.dat .bool z8)],[],0⟩)],?_,?_⟩
  ·have q:=hz8
   clear hz8
   unfold f53_j3 at q
   refine cN q (fun q=>?_) (fun q=>?_)
   ·refine gY (gY (gY (gY (gY (cI q (fun q=>?_) (fun q=>?_))))))
    ·refine gX (gX (gY (cT (cF ?_))))
     cases sE q
     refine E4 [] (R5 (AI TV TV))
    refine gM (gM (gY (cF (cF ?_))))
    cases sE q
    refine E4 [] (R5 (AI TV TV))
   refine gN (gN (gN (gN (gN (gN (cT ?_))))))
   cases sE q
   refine E4 [] (R5 (AI TV TV))
  refine AI (cI q (fun q=>?_) (fun q=>?_)) TV
  ·refine OL (OL ?_)
   obtain ⟨r9,h,q⟩:=bE q
   refine OQ ⟨ext3 Es,[r9.1,r9.2],Er,AI (ext3I h) ?_⟩
   cases sE q
   refine E4 [] (R4 (AI TV TV))
  cases sE q
  refine E4 [] (R4 (AI TV TV))
 refine AI (OL (OL (OL (OL (cI q (fun q=>?_) (fun q=>?_)))))) TV
 ·refine OL ?_
  obtain ⟨r10,h,q⟩:=bE q
  refine OL (cA H85 ((i64.wrap (if (9223372036854775807:Int)<z7.1 then (9223372036854775807:Int) else z7.1)),z7.2) h rfl (R2 (K0 ?_)))
  obtain ⟨r11,h,q⟩:=bE q
  refine OL (cA H84 (r10.1,r10.2) h rfl (R2 (K0 ?_)))
  cases sE q
  refine AI rfl (E4 [] (R2 (AI TV TV)))
 refine OL ?_
 obtain ⟨r12,h,q⟩:=bE q
 refine OL (cA H84 ((i64.wrap (if (9223372036854775807:Int)<z7.1 then (9223372036854775807:Int) else z7.1)),z7.2) h rfl (R2 (K0 ?_)))
 cases sE q
 refine AI rfl (E4 [] (R2 (AI TV TV)))
theorem H53:HI C53 53:=hI Tryz.f53 rfl fun x=>V53 x.1 x.2
def f211 (a:Al):Option Ax:=
 Ac (f119 (a.1,a.2)) fun q3_8=>
 bif (!q3_8) then
 some ((0:Int),(1:Int))
 else
 Ac (f223 a.2) fun q3_2=>
 Ac (f53 (q3_2.1,q3_2.2) (a.2.length:Int)) fun q3_6=>
 some (q3_6,(0:Int))
def C211:Con:=⟨Al,Ax,0,fun x=>[.dat T8 x],NX,fun x=>f211 x,fun y=>[.dat T0 y.1,.dat T0 y.2],NX,0⟩
theorem V211 a y (q:f211 a=some y):VC Tryz.f211 C211 a y:=by
 unfold f211 at q
 refine OL (OL (OL ?_))
 obtain ⟨q3_8,h,q⟩:=bE q
 refine OL (cA H119 (a.1,a.2) h rfl (R2 (K0 (cI q (fun q=>?_) (fun q=>?_)))))
 ·cases sE q
  refine OL (AI rfl (E4 [] (R3 (AI TV TV))))
 refine OL (EI (.take 0 (.take 1 (tU 3 3 (.alt 2 (.alt 6 (.take 7 (.take 8 .done)) .done) .done)))) (EI [] (EI [] (AI rfl (AI TV ?_)))))
 obtain ⟨q3_2,h,q⟩:=bE q
 refine OL (cA H223 a.2 h rfl (AI rfl (K0 (AI TV ?_))))
 obtain ⟨q3_6,h,q⟩:=bE q
 refine OL (cA H53 ((q3_2.1,q3_2.2),(a.2.length:Int)) h rfl (R3 (K0 ?_)))
 cases sE q
 refine AI rfl (E4 [] (R3 (AI TV TV)))
theorem H211:HI C211 211:=hI Tryz.f211 rfl fun x=>V211 x
def f186 (kind:Int):Option Bool:=
 bif (decide (kind≥1)) then
 some (decide (kind≤5))
 else
 some false
def C186:Con:=⟨Int,Bool,0,fun x=>[.dat T0 x],NX,fun x=>f186 x,fun y=>[.dat .bool y],NX,0⟩
theorem V186 kind y (q:f186 kind=some y):VC Tryz.f186 C186 kind y:=by
 unfold f186 at q
 refine OL (OL (cI q (fun q=>?_) (fun q=>?_)))
 ·refine gX (cT ?_)
  cases sE q
  refine AI rfl (E4 [] (R2 (AI TV TV)))
 refine gM (cF ?_)
 cases sE q
 refine AI rfl (E4 [] (R2 (AI TV TV)))
theorem H186:HI C186 186:=hI Tryz.f186 rfl fun x=>V186 x
def f230 (n:Int):Option Int:=
 bif (decide (n≥2147483648)) then
 some (9223372036854775807:Int)
 else
 bif (decide (n<(-2147483648:Int))) then
 some (-9223372036854775808:Int)
 else
 some (i64.wrap (n*2 ^ min (Int.toNat (32:Int)) i64.bits))
def C230:Con:=⟨Int,Int,0,fun x=>[.dat T0 x],NX,fun x=>f230 x,fun y=>[.dat T0 y],NX,0⟩
theorem V230 n y (q:f230 n=some y):VC Tryz.f230 C230 n y:=by
 unfold f230 at q
 refine OL (OL (OL (cI q (fun q=>?_) (fun q=>?_))))
 ·cases sE q
  refine OL (AI rfl (E4 [] (R2 (AI TV TV))))
 refine OL (cI q (fun q=>?_) (fun q=>?_))
 ·cases sE q
  refine OL (AI rfl (E4 [] (R2 (AI TV TV))))
 refine OL (AI (by decide) ?_)
 cases sE q
 refine AI rfl (E4 [] (R2 (AI TV TV)))
theorem H230:HI C230 230:=hI Tryz.f230 rfl fun x=>V230 x
def f231 (x_ lo hi:Int):Option Int:=
 some (if hi<(if lo>x_ then lo else x_) then hi else (if lo>x_ then lo else x_))
def C231:Con:=⟨Bw,Int,0,fun x=>[.dat T0 x.1,.dat T0 x.2.1,.dat T0 x.2.2],NX,fun x=>f231 x.1 x.2.1 x.2.2,fun y=>[.dat T0 y],NX,0⟩
theorem V231 x_ lo hi y (q:f231 x_ lo hi=some y):VC Tryz.f231 C231 (x_,lo,hi) y:=by
 unfold f231 at q
 refine OL (OL ?_)
 cases sE q
 refine AI rfl (E4 [] (R2 (AI TV TV)))
theorem H231:HI C231 231:=hI Tryz.f231 rfl fun x=>V231 x.1 x.2.1 x.2.2
def f232 (a:Int):Option Int:=
 bif (a==(-9223372036854775808:Int)) then
 some (9223372036854775807:Int)
 else
 some (i64.wrap (0-a))
def C232:Con:=⟨Int,Int,0,fun x=>[.dat T0 x],NX,fun x=>f232 x,fun y=>[.dat T0 y],NX,0⟩
theorem V232 a y (q:f232 a=some y):VC Tryz.f232 C232 a y:=by
 unfold f232 at q
 refine OL (OL (OL (cI q (fun q=>?_) (fun q=>?_))))
 ·cases sE q
  refine OL (AI rfl (E4 [] (R2 (AI TV TV))))
 cases sE q
 refine OL (AI rfl (E4 [] (R2 (AI TV TV))))
theorem H232:HI C232 232:=hI Tryz.f232 rfl fun x=>V232 x
def f224 (kind x_:Int):Option Ax:=
 bif (kind==1) then
 some ((if (0:Int)>x_ then (0:Int) else x_),(0:Int))
 else
 bif (kind==2) then
 bif (decide (x_>0)) then
 some (x_,(0:Int))
 else
 Ac (f230 (8:Int)) fun r1=>
 Ac (f79 x_ r1) fun r2=>
 some (r2,(0:Int))
 else
 bif (kind==3) then
 Ac (f231 x_ (-4294967296:Int) (4294967296:Int)) fun r3=>
 some (r3,(0:Int))
 else
 bif (kind==4) then
 bif (decide (x_<0)) then
 Ac (f232 x_) fun r4=>
 some (r4,(0:Int))
 else
 some (x_,(0:Int))
 else
 bif (kind==5) then
 Ac (f230 (2:Int)) fun r5=>
 Ac (f79 x_ r5) fun r6=>
 Ac (f33 r6 (2147483648:Int)) fun r7=>
 Ac (f231 r7 (0:Int) (4294967296:Int)) fun r8=>
 some (r8,(0:Int))
 else
 some ((0:Int),(1:Int))
def C224:Con:=⟨Ax,Ax,0,fun x=>[.dat T0 x.1,.dat T0 x.2],NX,fun x=>f224 x.1 x.2,fun y=>[.dat T0 y.1,.dat T0 y.2],NX,0⟩
theorem V224 kind x_ y (q:f224 kind x_=some y):VC Tryz.f224 C224 (kind,x_) y:=by
 unfold f224 at q
 refine OL (OL (OL (OL (cI q (fun q=>?_) (fun q=>?_)))))
 ·cases sE q
  refine OL (AI rfl (E4 [] (R3 (AI TV TV))))
 refine OL (cI q (fun q=>?_) (fun q=>?_))
 ·refine OL (OL (cI q (fun q=>?_) (fun q=>?_)))
  ·cases sE q
   refine OL (AI rfl (E4 [] (R3 (AI TV TV))))
  refine OL ?_
  obtain ⟨r1,h,q⟩:=bE q
  refine OL (cA H230 (8:Int) h rfl (AI rfl (K0 ?_)))
  obtain ⟨r2,h,q⟩:=bE q
  refine OL (cA H79 (x_,r1) h rfl (R2 (K0 ?_)))
  cases sE q
  refine AI rfl (E4 [] (R3 (AI TV TV)))
 refine OL (cI q (fun q=>?_) (fun q=>?_))
 ·refine OL ?_
  obtain ⟨r3,hr3,q⟩:=bE q
  have hr3:C231.F (x_,(-4294967296:Int),(4294967296:Int))=some r3:=hr3
  refine OL (cA H231 _ hr3 rfl (R3 (K0 ?_)))
  cases sE q
  refine AI rfl (E4 [] (R3 (AI TV TV)))
 refine OL (cI q (fun q=>?_) (fun q=>?_))
 ·refine OL (OL (cI q (fun q=>?_) (fun q=>?_)))
  ·refine OL ?_
   obtain ⟨r4,h,q⟩:=bE q
   refine OL (cA H232 x_ h rfl (AI rfl (K0 ?_)))
   cases sE q
   refine AI rfl (E4 [] (R3 (AI TV TV)))
  cases sE q
  refine OL (AI rfl (E4 [] (R3 (AI TV TV))))
 refine OL (cI q (fun q=>?_) (fun q=>?_))
 ·refine OL ?_
  obtain ⟨r5,h,q⟩:=bE q
  refine OL (cA H230 (2:Int) h rfl (AI rfl (K0 ?_)))
  obtain ⟨r6,h,q⟩:=bE q
  refine OL (cA H79 (x_,r5) h rfl (R2 (K0 ?_)))
  obtain ⟨r7,h,q⟩:=bE q
  refine OL (cA H33 (r6,(2147483648:Int)) h rfl (R2 (K0 ?_)))
  obtain ⟨r8,h,q⟩:=bE q
  refine OL (cA H231 (r7,(0:Int),(4294967296:Int)) h rfl (R3 (K0 ?_)))
  cases sE q
  refine AI rfl (E4 [] (R3 (AI TV TV)))
 cases sE q
 refine OL (AI rfl (E4 [] (R3 (AI TV TV))))
theorem H224:HI C224 224:=hI Tryz.f224 rfl fun x=>V224 x.1 x.2
def f212_j3 (kind:Int) (t:Al):Option Bool:=
 Ac (f186 kind) fun r9=>
 bif (!r9) then
 some true
 else
 Ac (f119 (t.1,t.2)) fun r10=>
 some (!r10)
def f212_j2 (kind:Int) (t:Al):Option (Sum Unit Unit):=
 Ac (f212_j3 kind t) fun z8=>
 bif z8 then
 some (Sum.inr ())
 else
 some (Sum.inl ())
def f212_l4 (kind:Int) (t:Al) (go:Bc→Option LI) (v23:Int) (l3:LI):Option LI:=
 bif (decide (v23<t.2.length)) then
 Ad (0≤v23∧v23<t.2.length)<|
 Ac (f224 kind (rd 0 t.2 v23)) fun q7_5=>
 Ad (0≤v23∧v23<l3.length)<|
 go ((i64.wrap (v23+1)),(List.set l3 (Int.toNat v23) q7_5.1))
 else
 some l3
def f212 (kind:Int) (t:Al):Option Bl:=
 Ac (f212_j2 kind t) fun z5=>
 Ak z5 (fun z5a=>
 Ac (f118 (t.1,t.2)) fun r11=>
 Ac (Ag (fun go x=>f212_l4 kind t go x.1 x.2) Ah ((0:Int),r11.2)) fun z12=>
 some ((0:Int),r11.1,z12)) (fun z5b=>
 some ((1:Int),[],[]))
def C212:Con:=⟨Bl,Bl,0,fun x=>[.dat T0 x.1,.dat T8 x.2],NX,fun x=>f212 x.1 x.2,fun y=>[.raw true [(.osl 0),(.osl 1)],.dat T0 y.1],fun y=>[(0,.arr 3 T0 y.2.1),(1,.arr 26 T0 y.2.2)],2⟩
theorem V212 kind t y (q:f212 kind t=some y):VC Tryz.f212 C212 (kind,t) y:=by
 unfold f212 at q
 refine OL ?_
 obtain ⟨z5,hz5,q⟩:=bE q
 refine OQ ⟨Sum.elim (fun z5a=>[(0,⟨[(0,.dat T0 kind),(3,P0 0 0),(4,P0 1 0)],[(0,.cells [(.d T5 t.1),(.d T5 t.2)]),(1,.cells [N0,N0])],2⟩)]) (fun z5b=>[(1,⟨[(4,P0 0 0),(5,D0 1)],[(0,.cells [N0,N0])],1⟩)]) z5,?_,?_⟩
 ·have q:=hz5
  clear hz5
  unfold f212_j2 at q
  obtain ⟨z8,hz8,q⟩:=bE q
  refine OQ ⟨[(0,⟨[(0,.dat T0 kind),(3,P0 0 0),(4,P0 1 0),(16,.dat .bool z8)],[(0,.cells [(.d T5 t.1),(.d T5 t.2)]),(1,.cells [N0,N0])],2⟩)],?_,?_⟩
  ·have q:=hz8
   clear hz8
   unfold f212_j3 at q
   obtain ⟨r9,h,q⟩:=bE q
   refine OL (cA H186 kind h rfl (AI rfl (K0 (cN q (fun q=>?_) (fun q=>?_)))))
   ·refine gY ?_
    obtain ⟨r10,h,q⟩:=bE q
    refine OL (cA H119 (t.1,t.2) h rfl (R2 (K0 (gY (cF ?_)))))
    cases sE q
    refine E4 I2 (R3 (AI (R2 TV) (R2 TV)))
   refine gN (gN (cT ?_))
   cases sE q
   refine E4 I2 (R3 (AI (R2 TV) (R2 TV)))
  refine AI (cI q (fun q=>?_) (fun q=>?_)) TV
  ·refine OL (OL ?_)
   cases sE q
   refine E4 (iuR [2]) (R2 (AJ (AI rfl TV)))
  cases sE q
  refine E4 I2 (R2 (AI (R2 TV) (R2 TV)))
 rcases z5 with z5a | z5b
 ·dsimp only [Ak] at q
  refine AI (OL ?_) TV
  obtain ⟨r11,h,q⟩:=bE q
  refine OL (cA H118 (t.1,t.2) h rfl (R2 (K0 (OL (OL (OL ?_))))))
  obtain ⟨z12,hz12,q⟩:=bE q
  let h0:LH:=fun zz=>(0,.cells [N0,N0])::(1,.cells [(.osl 2),(.osl 3)])::(2,.arr 3 T0 r11.1)::zz
  refine lJ hz12 (fun x=>⟨[(0,.dat T0 kind),(4,P0 0 0),(6,P0 1 0),(21,.dat T5 t.2),(22,.dat T0 (t.2.length:Int)),(23,.dat T0 x.1)],h0 [(3,.arr 26 T0 x.2)],4⟩) (fun z=>[(2,⟨[(4,P0 0 0),(6,P0 1 0)],h0 [(3,.arr 26 T0 z)],4⟩)]) (E4 (iuR [2,5,3,4]) (R5 (AI (R2 TV) (R4 TV)))) (fun m=>An (fun v23=>fun l3 z q=>?_)) ?_
  ·have q:f212_l4 kind t _ v23 l3=some z:=q
   unfold f212_l4 at q
   refine OL (OL (cI q (fun q=>?_) (fun q=>?_)))
   ·refine OL (OL (gI q (fun q=>?_)))
    refine EI (tU 0 5 (.alt 5 (tU 6 4 (.alt 10 .done .done)) .done)) (EI [] (EI [] (AI rfl (AI TV ?_))))
    obtain ⟨q7_5,h,q⟩:=bE q
    refine OL (cA H224 (kind,(rd 0 t.2 v23)) h rfl (R2 (K0 (gI q (fun q=>?_)))))
    refine AI TV (OL (EI ((i64.wrap (v23+1)),(List.set l3 (Int.toNat v23) q7_5.1)) (AI q (E4 I4 (R5 (AI (R2 TV) (R4 TV)))))))
   cases sE q
   refine E4 I4 (AI rfl (AI (R2 TV) (R4 TV)))
  refine AI (OL (OL ?_)) TV
  cases sE q
  refine AI rfl (E4 (iuR [3,4]) (R2 (AJ (R2 TV))))
 dsimp only [Ak] at q
 refine AI ?_ TV
 cases sE q
 refine AI rfl (E4 (iuR [0,0]) (R2 (AJ (R2 TV))))
theorem H212:HI C212 212:=hI Tryz.f212 rfl fun x=>V212 x.1 x.2
def f194_j3 (a:Al) (wid:Int):Option Bool:=
 bif (decide (wid<1)) then
 some true
 else
 Ad (0≤(1:Int)∧1<(a.1.length:Int))<|
 some (decide (wid>(rd 0 a.1 1)))
def f194_j2 (a:Al) (wid:Int):Option (Sum Unit Int):=
 Ac (f119 (a.1,a.2)) fun r4=>
 bif (!r4) then
 some (Sum.inr (1:Int))
 else
 bif ((a.1.length:Int) != 2) then
 some (Sum.inr (4:Int))
 else
 Ac (f194_j3 a wid) fun z5=>
 bif z5 then
 some (Sum.inr (1:Int))
 else
 some (Sum.inl ())
def f194_l7 (a:Al) (wid v61:Int) (go:Ax→Option Int) (best at_:Int):Option Int:=
 Ad ((i64.wrap (Int.tdiv (rd 0 a.1 1) wid))≠0)<|
 Ad ((i64.wrap (Int.tdiv (rd 0 a.1 1) wid))≠0)<|
 bif (decide (at_<(i64.wrap ((i64.wrap ((i64.wrap ((i64.wrap (Int.tdiv v61 (i64.wrap (Int.tdiv (rd 0 a.1 1) wid))))*(rd 0 a.1 1)))+(i64.wrap ((Int.tmod v61 (i64.wrap (Int.tdiv (rd 0 a.1 1) wid)))*wid))))+wid)))) then
 Ad (0≤at_∧at_<a.2.length)<|
 Ad (0≤best∧best<a.2.length)<|
 bif (decide ((rd 0 a.2 at_)>(rd 0 a.2 best))) then
 go (at_,(i64.wrap (at_+1)))
 else
 go (best,(i64.wrap (at_+1)))
 else
 some best
def f194_l6 (a:Al) (wid:Int) (q7_11:Bl) (go:Bl→Option Al) (v61:Int) (l3 l5:LI):Option Al:=
 bif (decide (v61<q7_11.2.2.length)) then
 Ad ((i64.wrap (Int.tdiv (rd 0 a.1 1) wid))≠0)<|
 Ad ((i64.wrap (Int.tdiv (rd 0 a.1 1) wid))≠0)<|
 Ac (Ag (fun go x=>f194_l7 a wid v61 go x.1 x.2) Ah ((i64.wrap ((i64.wrap ((i64.wrap (Int.tdiv v61 (i64.wrap (Int.tdiv (rd 0 a.1 1) wid))))*(rd 0 a.1 1)))+(i64.wrap ((Int.tmod v61 (i64.wrap (Int.tdiv (rd 0 a.1 1) wid)))*wid)))),(i64.wrap ((i64.wrap ((i64.wrap ((i64.wrap (Int.tdiv v61 (i64.wrap (Int.tdiv (rd 0 a.1 1) wid))))*(rd 0 a.1 1)))+(i64.wrap ((Int.tmod v61 (i64.wrap (Int.tdiv (rd 0 a.1 1) wid)))*wid))))+1)))) fun z9=>
 Ad (0≤z9∧z9<a.2.length)<|
 Ad (0≤v61∧v61<l5.length)<|
 Ad ((l3.length+List.length ([z9]))*8≤140737488355328)<|
 go ((i64.wrap (v61+1)),(l3++([z9])),(List.set l5 (Int.toNat v61) (rd 0 a.2 z9)))
 else
 some (l3,l5)
def f194 (a:Al) (wid:Int):Option (Int×LI×Al):=
 Ac (f194_j2 a wid) fun z3=>
 Ak z3 (fun z3a=>
 Ad (0≤(1:Int)∧1<(a.1.length:Int))<|
 Ad (0≤(1:Int)∧1<(a.1.length:Int))<|
 Ad (wid≠0)<|
 Ad (0≤(0:Int)∧0<(a.1.length:Int))<|
 Ac (f191 ([(rd 0 a.1 0),(i64.wrap (Int.tdiv (rd 0 a.1 1) wid))])) fun q7_11=>
 Ac (Ag (fun go x=>f194_l6 a wid q7_11 go x.1 x.2.1 x.2.2) Ah ((0:Int),[],q7_11.2.2)) fun z8=>
 some ((0:Int),q7_11.2.1,z8.2,z8.1)) (fun z3b=>
 some (z3b,[],[],[]))
def C194:Con:=⟨Al×Int,Int×LI×Al,0,fun x=>[.dat T8 x.1,.dat T0 x.2],NX,fun x=>f194 x.1 x.2,fun y=>[.raw true [(.osl 0),(.osl 1)],O0 2,.dat T0 y.1],fun y=>[(0,.arr 3 T0 y.2.1),(1,.arr 26 T0 y.2.2.1),(2,.arr 3 T0 y.2.2.2)],3⟩
theorem V194 a wid y (q:f194 a wid=some y):VC Tryz.f194 C194 (a,wid) y:=by
 unfold f194 at q
 refine OL ?_
 obtain ⟨z3,hz3,q⟩:=bE q
 let e0:LE:=fun zz=>(1,.dat T0 wid)::(2,P0 0 0)::(4,P0 1 0)::zz
 let h1:LH:=fun zz=>(0,.cells [(.d T5 a.1),(.d T5 a.2)])::(1,.cells [N0,N0])::zz
 refine OQ ⟨Sum.elim (fun z3a=>[(0,⟨e0 [],h1 [],2⟩)]) (fun z3b=>[(1,⟨[(4,P0 0 0),(5,.raw false [N0]),(6,.dat T0 z3b)],[(0,.cells [N0,N0])],1⟩)]) z3,?_,?_⟩
 ·have q:=hz3
  clear hz3
  unfold f194_j2 at q
  refine OL ?_
  obtain ⟨r4,h,q⟩:=bE q
  refine OL (cA H119 (a.1,a.2) h rfl (R2 (K0 (cI q (fun q=>?_) (fun q=>?_)))))
  ·refine OL (OL ?_)
   cases sE q
   refine E4 (iuR [2]) (R2 (AI (R2 TV) (AI rfl TV)))
  refine OL (cI q (fun q=>?_) (fun q=>?_))
  ·refine OL (OL ?_)
   cases sE q
   refine E4 (iuR [2]) (R2 (AI (R2 TV) (AI rfl TV)))
  obtain ⟨z5,hz5,q⟩:=bE q
  refine OQ ⟨[(0,⟨e0 [(26,.dat .bool z5)],h1 [],2⟩)],?_,?_⟩
  ·have q:=hz5
   clear hz5
   unfold f194_j3 at q
   refine cN q (fun q=>?_) (fun q=>?_)
   ·refine gY (gY (gY (gI q (fun q=>?_))))
    refine gY (gY (cF ?_))
    cases sE q
    refine E4 I2 (R3 (AI (R2 TV) (R2 TV)))
   refine gN (gN (gN (gN (gN (cT ?_)))))
   cases sE q
   refine E4 I2 (R3 (AI (R2 TV) (R2 TV)))
  refine AI (cI q (fun q=>?_) (fun q=>?_)) TV
  ·refine OL (OL ?_)
   cases sE q
   refine E4 (iuR [2]) (R2 (AI (R2 TV) (AI rfl TV)))
  cases sE q
  refine E4 I2 (R2 (AI (R2 TV) (R2 TV)))
 rcases z3 with z3a | z3b
 ·dsimp only [Ak] at q
  refine AI (OL (EI (tU 0 12 .done) (EI [] (EI [] (AI rfl (gI q (fun q=>?_))))))) TV
  refine gI q (fun q=>?_)
  refine gI q (fun q=>?_)
  refine OL (gI q (fun q=>?_))
  refine OL ?_
  obtain ⟨q7_11,h,q⟩:=bE q
  refine OL (cD H191 [(rd 0 a.1 0),(i64.wrap (Int.tdiv (rd 0 a.1 1) wid))] h rfl (AI rfl (AI (fun _=>rfl) (R2 (AI TV (AI TV (OL (OL (OL (OL ?_))))))))))
  obtain ⟨z8,hz8,q⟩:=bE q
  let e2:LE:=fun zz=>e0 ((7,.dat T0 (rd 0 a.1 1))::(8,.dat T0 (i64.wrap (Int.tdiv (rd 0 a.1 1) wid)))::(9,P0 2 0)::(11,O0 3)::zz)
  let h3:LH:=fun zz=>h1 ((2,.cells [(.osl 4),(.osl 5)])::zz)
  refine lJ hz8 (fun x=>⟨e2 [(60,.dat T0 (q7_11.2.2.length:Int)),(61,.dat T0 x.1)],h3 [(3,.arr 3 T0 x.2.1),(4,.arr 3 T0 q7_11.2.1),(5,.arr 26 T0 x.2.2)],6⟩) (fun z=>[(3,⟨[(4,P0 0 0),(9,P0 1 0),(11,O0 2)],[(0,.cells [N0,N0]),(1,.cells [(.osl 3),(.osl 4)]),(2,.arr 3 T0 z.1),(3,.arr 3 T0 q7_11.2.1),(4,.arr 26 T0 z.2)],5⟩)]) (E4 (iuR [1,2,6,0,4,5]) (R6 (AI (R4 TV) (R6 TV)))) (fun m=>An (fun v61=>An (fun l3=>fun l5 z q=>?_))) ?_
  ·have q:f194_l6 a wid q7_11 _ v61 l3 l5=some z:=q
   unfold f194_l6 at q
   refine OL (OL (cI q (fun q=>?_) (fun q=>?_)))
   ·refine OL (OL (OL (EI (tU 0 12 .done) (EI [] (EI [] (AI rfl (gI q (fun q=>?_))))))))
    refine gI q (fun q=>?_)
    refine OL (OL ?_)
    obtain ⟨z9,hz9,q⟩:=bE q
    let h4:LH:=fun zz=>h3 ((3,.arr 3 T0 l3)::(4,.arr 3 T0 q7_11.2.1)::(5,.arr 26 T0 l5)::zz)
    refine lJ hz9 (fun x=>⟨e2 [(12,.dat T0 v61),(13,.dat T0 x.1),(14,.dat T0 x.2),(60,.dat T0 (q7_11.2.2.length:Int)),(61,.dat T0 v61)],h4 [],6⟩) (fun z=>[(5,⟨e2 [(12,.dat T0 v61),(13,.dat T0 z),(60,.dat T0 (q7_11.2.2.length:Int)),(61,.dat T0 v61)],h4 [],6⟩)]) (E4 I6 (R9 (AI (R4 TV) (R6 TV)))) (fun m=>An (fun best=>fun at_ z q=>?_)) ?_
    ·have q:f194_l7 a wid v61 _ best at_=some z:=q
     unfold f194_l7 at q
     refine OL (OL (EI (tU 0 15 .done) (EI [] (EI [] (AI rfl (gI q (fun q=>?_)))))))
     refine gI q (fun q=>?_)
     refine cI q (fun q=>?_) (fun q=>?_)
     ·refine OL (OL (EI (tU 0 11 .done) (EI [] (EI [] (AI rfl (gI q (fun q=>?_)))))))
      refine gI q (fun q=>?_)
      refine cI q (fun q=>?_) (fun q=>?_)
      ·refine EI (at_,(i64.wrap (at_+1))) (AI q (E4 I6 (R9 (AI (R4 TV) (R6 TV)))))
      refine EI (best,(i64.wrap (at_+1))) (AI q (E4 I6 (R9 (AI (R4 TV) (R6 TV)))))
     cases sE q
     refine E4 I6 (R8 (AI (R4 TV) (R6 TV)))
    refine AI (OL (EI (tU 0 9 (.alt 9 .done .done)) (EI [] (EI [] (AI rfl (gI q (fun q=>?_))))))) TV
    refine gI q (fun q=>?_)
    refine AI TV (OL (OL (OL (gI q (fun q=>?_)))))
    refine EI ((i64.wrap (v61+1)),(l3++([z9])),(List.set l5 (Int.toNat v61) (rd 0 a.2 z9))) (AI q (E4 (iuR [1,2,3,8,5,6]) (R6 (AI (R4 TV) (R6 TV)))))
   cases sE q
   refine E4 (iuR [2,3,4,5,6]) (AI rfl (AI (R3 TV) (R5 TV)))
  refine AI (OL (OL ?_)) TV
  cases sE q
  refine AI rfl (E4 (iuR [4,5,3]) (R2 (AI (R2 TV) (R3 TV))))
 dsimp only [Ak] at q
 refine AI ?_ TV
 cases sE q
 refine AI rfl (E4 (iuR [0,0,0]) (R2 (AI (R2 TV) (R3 TV))))
theorem H194:HI C194 194:=hI Tryz.f194 rfl fun x=>V194 x.1 x.2
def f151_j3 (a:Al) (d:LI):Option Bool:=
 Ac (f119 (a.1,a.2)) fun r8=>
 bif (!r8) then
 some true
 else
 Ac (f67 d) fun r9=>
 some (!r9)
def f151_j2 (a:Al) (d:LI):Option (Sum Unit Int):=
 Ac (f151_j3 a d) fun z7=>
 bif z7 then
 some (Sum.inr (1:Int))
 else
 Ac (f116 d) fun q3_1=>
 bif (q3_1 != a.2.length) then
 some (Sum.inr (4:Int))
 else
 some (Sum.inl ())
def f151 (a:Al) (d:LI):Option Bl:=
 Ac (f151_j2 a d) fun z5=>
 Ak z5 (fun z5a=>
 Ac (f47 d) fun q5_1=>
 Ac (f24 a.2) fun q5_4=>
 some ((0:Int),q5_1,q5_4)) (fun z5b=>
 some (z5b,[],[]))
def C151:Con:=⟨Al×LI,Bl,0,fun x=>[.dat T8 x.1,.dat T5 x.2],NX,fun x=>f151 x.1 x.2,fun y=>[.raw true [(.osl 0),(.osl 1)],.dat T0 y.1],fun y=>[(0,.arr 3 T0 y.2.1),(1,.arr 26 T0 y.2.2)],2⟩
theorem V151 a d y (q:f151 a d=some y):VC Tryz.f151 C151 (a,d) y:=by
 unfold f151 at q
 refine OL ?_
 obtain ⟨z5,hz5,q⟩:=bE q
 refine OQ ⟨Sum.elim (fun z5a=>[(0,⟨[(1,.dat T5 d),(2,P0 0 0),(4,P0 1 0)],[(0,.cells [(.d T5 a.1),(.d T5 a.2)]),(1,.cells [N0,N0])],2⟩)]) (fun z5b=>[(1,⟨[(4,P0 0 0),(5,.dat T0 z5b)],[(0,.cells [N0,N0])],1⟩)]) z5,?_,?_⟩
 ·have q:=hz5
  clear hz5
  unfold f151_j2 at q
  obtain ⟨z7,hz7,q⟩:=bE q
  refine OQ ⟨[(0,⟨[(1,.dat T5 d),(2,P0 0 0),(4,P0 1 0),(6,.dat .bool z7)],[(0,.cells [(.d T5 a.1),(.d T5 a.2)]),(1,.cells [N0,N0])],2⟩)],?_,?_⟩
  ·have q:=hz7
   clear hz7
   unfold f151_j3 at q
   obtain ⟨r8,h,q⟩:=bE q
   refine OL (cA H119 (a.1,a.2) h rfl (R2 (K0 (cN q (fun q=>?_) (fun q=>?_)))))
   ·refine gY ?_
    obtain ⟨r9,h,q⟩:=bE q
    refine OL (cA H67 d h rfl (AI rfl (K0 (gY (cF ?_)))))
    cases sE q
    refine E4 I2 (R3 (AI (R2 TV) (R2 TV)))
   refine gN (gN (cT ?_))
   cases sE q
   refine E4 I2 (R3 (AI (R2 TV) (R2 TV)))
  refine AI (cI q (fun q=>?_) (fun q=>?_)) TV
  ·refine OL (OL ?_)
   cases sE q
   refine E4 (iuR [2]) (R2 (AJ (AI rfl TV)))
  refine OL (EI (.take 0 (tU 2 3 (.alt 1 (.take 5 (.take 6 .done)) .done))) (EI [] (EI [] (AI rfl (AI TV ?_)))))
  obtain ⟨q3_1,h,q⟩:=bE q
  refine OL (cA H116 d h rfl (AI rfl (K0 (cI q (fun q=>?_) (fun q=>?_)))))
  ·refine OL (OL ?_)
   cases sE q
   refine E4 (iuR [2]) (R2 (AJ (AI rfl TV)))
  cases sE q
  refine E4 I2 (R2 (AI (R2 TV) (R2 TV)))
 rcases z5 with z5a | z5b
 ·dsimp only [Ak] at q
  refine AI (OL (EI (.take 0 (.take 2 (.take 3 (.alt 1 (.alt 4 (.take 5 (.alt 6 (.take 7 .done) .done)) .done) .done)))) (EI [] (EI [] (AI rfl (AI TV ?_)))))) TV
  obtain ⟨q5_1,h,q⟩:=bE q
  refine OL (cA H47 d h rfl (AI rfl (K0 (AI TV ?_))))
  obtain ⟨q5_4,h,q⟩:=bE q
  refine OL (cA H24 a.2 h rfl (AI rfl (K0 (AI TV (OL ?_)))))
  cases sE q
  refine AI rfl (E4 (iuR [3,4]) (R2 (AJ (R2 TV))))
 dsimp only [Ak] at q
 refine AI ?_ TV
 cases sE q
 refine AI rfl (E4 (iuR [0,0]) (R2 (AJ (R2 TV))))
theorem H151:HI C151 151:=hI Tryz.f151 rfl fun x=>V151 x.1 x.2
def f177 (op:Int) (a:Al) (k:Int):Option Bl:=
 bif (op==5) then
 Ac (f144 (a.1,a.2) k) fun r1=>
 some (r1.1,r1.2.1,r1.2.2)
 else
 bif (op==7) then
 Ac (f146 (a.1,a.2)) fun r2=>
 some (r2.1,r2.2.1,r2.2.2)
 else
 bif (op==8) then
 Ac (f208 (a.1,a.2) k) fun r3=>
 some (r3.1,r3.2.1,r3.2.2)
 else
 bif (op==9) then
 Ac (f210 (a.1,a.2)) fun r4=>
 Ac (f209 r4.1 r4.2) fun r5=>
 some (r5.1,r5.2.1,r5.2.2)
 else
 bif (op==10) then
 Ac (f211 (a.1,a.2)) fun r6=>
 Ac (f209 r6.1 r6.2) fun r7=>
 some (r7.1,r7.2.1,r7.2.2)
 else
 bif (op==11) then
 Ac (f212 k (a.1,a.2)) fun r8=>
 some (r8.1,r8.2.1,r8.2.2)
 else
 bif (op==13) then
 Ac (f194 (a.1,a.2) k) fun r9=>
 some (r9.1,r9.2.1,r9.2.2.1)
 else
 Ac (f151 (a.1,a.2) ([(a.2.length:Int)])) fun r10=>
 some (r10.1,r10.2.1,r10.2.2)
def C177:Con:=⟨Int×Al×Int,Bl,0,fun x=>[.dat T0 x.1,.dat T8 x.2.1,.dat T0 x.2.2],NX,fun x=>f177 x.1 x.2.1 x.2.2,fun y=>[.raw true [(.osl 0),(.osl 1)],.dat T0 y.1],fun y=>[(0,.arr 3 T0 y.2.1),(1,.arr 26 T0 y.2.2)],2⟩
theorem V177 op a k y (q:f177 op a k=some y):VC Tryz.f177 C177 (op,a,k) y:=by
 unfold f177 at q
 refine OL (OL (OL (OL (cI q (fun q=>?_) (fun q=>?_)))))
 ·refine OL ?_
  obtain ⟨r1,h,q⟩:=bE q
  refine OL (cA H144 ((a.1,a.2),k) h rfl (R3 (K0 (OL ?_))))
  cases sE q
  refine AI rfl (E4 (iuR [3,4]) (R2 (AJ (R2 TV))))
 refine OL (cI q (fun q=>?_) (fun q=>?_))
 ·refine OL ?_
  obtain ⟨r2,h,q⟩:=bE q
  refine OL (cA H146 (a.1,a.2) h rfl (R2 (K0 (OL ?_))))
  cases sE q
  refine AI rfl (E4 (iuR [3,4]) (R2 (AJ (R2 TV))))
 refine OL (cI q (fun q=>?_) (fun q=>?_))
 ·refine OL ?_
  obtain ⟨r3,h,q⟩:=bE q
  refine OL (cA H208 ((a.1,a.2),k) h rfl (R3 (K0 (OL ?_))))
  cases sE q
  refine AI rfl (E4 (iuR [3,4]) (R2 (AJ (R2 TV))))
 refine OL (cI q (fun q=>?_) (fun q=>?_))
 ·refine OL ?_
  obtain ⟨r4,h,q⟩:=bE q
  refine OL (cA H210 (a.1,a.2) h rfl (R2 (K0 ?_)))
  obtain ⟨r5,h,q⟩:=bE q
  refine OL (cA H209 (r4.1,r4.2) h rfl (R2 (K0 (OL ?_))))
  cases sE q
  refine AI rfl (E4 (iuR [3,4]) (R2 (AJ (R2 TV))))
 refine OL (cI q (fun q=>?_) (fun q=>?_))
 ·refine OL ?_
  obtain ⟨r6,h,q⟩:=bE q
  refine OL (cA H211 (a.1,a.2) h rfl (R2 (K0 ?_)))
  obtain ⟨r7,h,q⟩:=bE q
  refine OL (cA H209 (r6.1,r6.2) h rfl (R2 (K0 (OL ?_))))
  cases sE q
  refine AI rfl (E4 (iuR [3,4]) (R2 (AJ (R2 TV))))
 refine OL (cI q (fun q=>?_) (fun q=>?_))
 ·refine OL ?_
  obtain ⟨r8,h,q⟩:=bE q
  refine OL (cA H212 (k,(a.1,a.2)) h rfl (R3 (K0 (OL ?_))))
  cases sE q
  refine AI rfl (E4 (iuR [3,4]) (R2 (AJ (R2 TV))))
 refine OL (cI q (fun q=>?_) (fun q=>?_))
 ·refine OL ?_
  obtain ⟨r9,h,q⟩:=bE q
  refine OL (cA H194 ((a.1,a.2),k) h rfl (R3 (K0 (OL (OL (OL ?_))))))
  cases sE q
  refine AI rfl (E4 (iuR [3,4]) (R2 (AJ (R2 TV))))
 refine OL (OL ?_)
 obtain ⟨r10,h,q⟩:=bE q
 refine OL (cD H151 ((a.1,a.2),[(a.2.length:Int)]) h rfl (R3 (AI (fun _=>rfl) (R2 (AI TV (AI TV (OL ?_)))))))
 cases sE q
 refine AI rfl (E4 (iuR [4,5]) (R2 (AJ (R2 TV))))
theorem H177:HI C177 177:=hI Tryz.f177 rfl fun x=>V177 x.1 x.2.1 x.2.2
def f138_j1 (t_l:NL) (op a b:Int):Option (Sum NL (Int×NL)):=
 bif (decide ((t_l.length:Int)≥512)) then
 some (Sum.inr ((2:Int),t_l))
 else
 bif (decide (op<2)) then
 some (Sum.inr ((1:Int),t_l))
 else
 bif (decide (op>14)) then
 some (Sum.inr ((1:Int),t_l))
 else
 Ac (f117 t_l a) fun r5=>
 bif (!r5.1) then
 some (Sum.inr ((1:Int),r5.2))
 else
 Ac (f174 op) fun r6=>
 bif r6 then
 Ac (f117 r5.2 b) fun r7=>
 bif (!r7.1) then
 some (Sum.inr ((1:Int),r7.2))
 else
 some (Sum.inl r7.2)
 else
 some (Sum.inl r5.2)
def f138_j2 (op k:Int):Option Int:=
 Ac (f175 op) fun r10=>
 bif r10 then
 some k
 else
 some (0:Int)
def f138_j3 (op a b k:Int) (z4a:NL):Option (Int×Bl):=
 Ac (f174 op) fun r13=>
 bif r13 then
 Ad (0≤a∧a<z4a.length)<|
 Ad (0≤b∧b<z4a.length)<|
 Ac (f176 op ((((((rd (Ty.z T7) z4a a).2).2).2).2).1,(((((rd (Ty.z T7) z4a a).2).2).2).2).2) ((((((rd (Ty.z T7) z4a b).2).2).2).2).1,(((((rd (Ty.z T7) z4a b).2).2).2).2).2) k) fun q11_18=>
 some (q11_18.1,b,q11_18.2.1,q11_18.2.2)
 else
 Ad (0≤a∧a<z4a.length)<|
 Ac (f177 op ((((((rd (Ty.z T7) z4a a).2).2).2).2).1,(((((rd (Ty.z T7) z4a a).2).2).2).2).2) k) fun q11_24=>
 some (q11_24.1,(-1:Int),q11_24.2.1,q11_24.2.2)
def f138 (t_l:NL) (op a b k:Int):Option Bu:=
 Ac (f138_j1 t_l op a b) fun z4=>
 Ak z4 (fun z4a=>
 Ac (f138_j2 op k) fun z9=>
 Ac (f138_j3 op a b k z4a) fun z12=>
 bif (z12.1 != 0) then
 some ((0:Int),z12.1,z4a)
 else
 Ac (f137 z4a (op,a,z12.2.1,z9,z12.2.2.1,z12.2.2.2)) fun r14=>
 some (r14.1,(0:Int),r14.2)) (fun z4b=>
 some ((0:Int),z4b.1,z4b.2))
def C138:Con:=⟨NL×PTz7,Bu,2,fun x=>[P0 0 0,.dat T0 x.2.1,.dat T0 x.2.2.1,.dat T0 x.2.2.2.1,.dat T0 x.2.2.2.2],fun x=>[(0,.cells [(.osl 1)]),(1,.arr 156 T7 x.1)],fun x=>f138 x.1 x.2.1 x.2.2.1 x.2.2.2.1 x.2.2.2.2,fun y=>[.dat T0 y.1,.dat T0 y.2.1],fun y=>[(0,.cells [(.osl 2)]),(2,.arr 156 T7 y.2.2)],3⟩
theorem V138 t_l op a b k y (q:f138 t_l op a b k=some y):VE Tryz.f138 2 C138 (t_l,op,a,b,k) y:=by
 unfold f138 at q
 refine OL ?_
 obtain ⟨z4,hz4,q⟩:=bE q
 let e0:LE:=fun zz=>(0,P0 0 0)::(1,.dat T0 op)::(2,.dat T0 a)::(3,.dat T0 b)::(4,.dat T0 k)::zz
 refine OQ ⟨Sum.elim (fun z4a=>[(0,⟨e0 [],[(0,.cells [(.osl 1)]),(1,.arr 156 T7 z4a)],2⟩)]) (fun z4b=>[(1,⟨[(10,D0 0),(11,.dat T0 z4b.1)],[(0,.cells [(.osl 1)]),(1,.arr 156 T7 z4b.2)],2⟩)]) z4,?_,?_⟩
 ·have q:=hz4
  clear hz4
  unfold f138_j1 at q
  refine OL (cI q (fun q=>?_) (fun q=>?_))
  ·cases sE q
   refine OL (E4 I2 (R3 (AI TV (R2 TV))))
  refine OL (cN q (fun q=>?_) (fun q=>?_))
  ·refine gY (cF (cN q (fun q=>?_) (fun q=>?_)))
   ·refine gY (gY ?_)
    obtain ⟨r5,h,q⟩:=bE q
    refine OL (cB H117 (t_l,a) I2 false h rfl (AI rfl (AI NH (R2 (AJ (AI (R2 TV) (gY (cF (cN q (fun q=>?_) (fun q=>?_))))))))))
    ·refine gY ?_
     obtain ⟨r6,h,q⟩:=bE q
     refine OL (cA H174 op h rfl (AI rfl (K0 (gY (cI q (fun q=>?_) (fun q=>?_))))))
     ·refine gX (gX ?_)
      obtain ⟨r7,h,q⟩:=bE q
      refine OL (cB H117 (r5.2,b) I2 false h rfl (AI rfl (AI NH (R2 (AJ (AI (R2 TV) (gX (gY (cT (cF (cI q (fun q=>?_) (fun q=>?_))))))))))))
      ·cases sE q
       refine OL (E4 I2 (R3 (AI TV (R2 TV))))
      cases sE q
      refine E4 I2 (R5 (AJ (R2 TV)))
     refine gM (gM (gM (gY (cF (cF (cF ?_))))))
     cases sE q
     refine E4 I2 (R5 (AJ (R2 TV)))
    refine gN (gN (gN (cT (cT (OL ?_)))))
    cases sE q
    refine E4 I2 (R3 (AI TV (R2 TV)))
   refine gN (gN (gN (cT (gN (gN (gN (gN (cT (cT (OL ?_))))))))))
   cases sE q
   refine E4 I2 (R3 (AI TV (R2 TV)))
  refine gN (cT (gN (gN (gN (gN (cT (gN (gN (gN (gN (cT (cT (OL ?_)))))))))))))
  cases sE q
  refine E4 I2 (R3 (AI TV (R2 TV)))
 rcases z4 with z4a | z4b
 ·dsimp only [Ak] at q
  refine AI (OL (OL ?_)) TV
  obtain ⟨z9,hz9,q⟩:=bE q
  refine OQ ⟨[(0,⟨e0 [(12,P0 2 0)],[(0,.cells [(.osl 1)]),(1,.arr 156 T7 z4a),(2,.cells [(.d T0 op),(.d T0 a),(.d T0 (-1:Int)),(.d T0 z9),N0,N0])],3⟩)],?_,?_⟩
  ·have q:=hz9
   clear hz9
   unfold f138_j2 at q
   refine OL ?_
   obtain ⟨r10,h,q⟩:=bE q
   refine OL (cA H175 op h rfl (AI rfl (K0 (cI q (fun q=>?_) (fun q=>?_)))))
   ·cases sE q
    refine OL (E4 I3 (R5 (AI (R2 TV) (R3 TV))))
   cases sE q
   refine E4 I3 (R5 (AI (R2 TV) (R3 TV)))
  refine AI (OL ?_) TV
  obtain ⟨z12,hz12,q⟩:=bE q
  refine OQ ⟨[(0,⟨[(0,P0 0 0),(12,P0 2 0),(13,.dat T0 z12.1)],[(0,.cells [(.osl 1)]),(1,.arr 156 T7 z4a),(2,.cells [(.d T0 op),(.d T0 a),(.d T0 z12.2.1),(.d T0 z9),(.osl 3),(.osl 4)]),(3,.arr 3 T0 z12.2.2.1),(4,.arr 26 T0 z12.2.2.2)],5⟩)],?_,?_⟩
  ·have q:=hz12
   clear hz12
   unfold f138_j3 at q
   refine OL ?_
   obtain ⟨r13,h,q⟩:=bE q
   refine OL (cA H174 op h rfl (AI rfl (K0 (cI q (fun q=>?_) (fun q=>?_)))))
   ·refine OL (OL (EI (tU 0 18 (.alt 18 (tU 19 4 (.alt 23 (.take 24 .done) .done)) .done)) (EI [] (EI [] (AI rfl (gI q (fun q=>?_)))))))
    refine gI q (fun q=>?_)
    refine AI TV ?_
    obtain ⟨q11_18,h,q⟩:=bE q
    refine OL (cA H176 (op,((((((rd (Ty.z T7) z4a a).2).2).2).2).1,(((((rd (Ty.z T7) z4a a).2).2).2).2).2),((((((rd (Ty.z T7) z4a b).2).2).2).2).1,(((((rd (Ty.z T7) z4a b).2).2).2).2).2),k) h rfl (R6 (K0 (AI TV (OL ?_)))))
    cases sE q
    refine E4 I5 (R2 (AI (R2 TV) (R5 TV)))
   refine gI q (fun q=>?_)
   obtain ⟨q11_24,h,q⟩:=bE q
   refine OL (cA H177 (op,((((((rd (Ty.z T7) z4a a).2).2).2).2).1,(((((rd (Ty.z T7) z4a a).2).2).2).2).2),k) h rfl (R4 (K0 (OL ?_))))
   cases sE q
   refine E4 I5 (R2 (AI (R2 TV) (R5 TV)))
  refine AI (OL (OL (cI q (fun q=>?_) (fun q=>?_)))) TV
  ·cases sE q
   refine OL (AI rfl (E4 [(0,some 0),(2,some 1)] (R3 (AI TV (R2 TV)))))
  refine OL ?_
  obtain ⟨r14,h,q⟩:=bE q
  refine OL (cB H137 (z4a,(op,a,z12.2.1,z9,z12.2.2.1,z12.2.2.2)) I2 false h rfl (R2 (AI NH (R2 (AJ (AI (R2 TV) ?_))))))
  cases sE q
  refine AI rfl (E4 [(0,some 0),(2,some 7)] (R3 (AI TV (R2 TV))))
 dsimp only [Ak] at q
 refine AI ?_ TV
 cases sE q
 refine AI rfl (E4 [(0,some 0),(2,some 1)] (R3 (AI TV (R2 TV))))
theorem H138:HI C138 138:=hI Tryz.f138 rfl fun x=>V138 x.1 x.2.1 x.2.2.1 x.2.2.2.1 x.2.2.2.2
end Go.Proofs
