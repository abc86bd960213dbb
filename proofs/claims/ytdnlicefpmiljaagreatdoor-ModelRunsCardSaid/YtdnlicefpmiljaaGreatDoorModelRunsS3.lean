import Derived.Test.YtdnlicefpmiljaaGreatDoorModelRunsS2
set_option linter.unusedVariables false
set_option maxRecDepth 100000
set_option maxHeartbeats 8000000
namespace Go.Proofs
open Go.AM
open IntKind (i64 u64 i32 u32 i16 u16 i8 u8)
def f186 (kind x_:Int):Option F9:=
 bif (kind==1) then
 some ((if (0:Int)>x_ then (0:Int) else x_),(0:Int))
 else
 bif (kind==2) then
 bif (decide (x_>0)) then
 some (x_,(0:Int))
 else
 Ey (f213 (8:Int)) fun r1=>
 Ey (f207 x_ r1) fun r2=>
 some (r2,(0:Int))
 else
 bif (kind==3) then
 Ey (f214 x_ (-4294967296:Int) (4294967296:Int)) fun r3=>
 some (r3,(0:Int))
 else
 bif (kind==4) then
 bif (decide (x_<0)) then
 Ey (f215 x_) fun r4=>
 some (r4,(0:Int))
 else
 some (x_,(0:Int))
 else
 bif (kind==5) then
 Ey (f213 (2:Int)) fun r5=>
 Ey (f207 x_ r5) fun r6=>
 Ey (f167 r6 (2147483648:Int)) fun r7=>
 Ey (f214 r7 (0:Int) (4294967296:Int)) fun r8=>
 some (r8,(0:Int))
 else
 some ((0:Int),(1:Int))
def C186:Con:=⟨F9,F9,0,fun x=>[.dat T1 x.1,.dat T1 x.2],NX,fun x=>f186 x.1 x.2,fun y=>[.dat T1 y.1,.dat T1 y.2],NX,0⟩
theorem V186 kind x_ y (q:f186 kind x_=some y):VC Tryz.f186 C186 (kind,x_) y:=by
 unfold f186 at q
 refine OL (OL (OL (OL (cI q (fun q=>?_) (fun q=>?_)))))
 ·cases sE q
  refine OL (AI rfl (E4 [] (R3 (AI TV TV))))
 refine OL (cI q (fun q=>?_) (fun q=>?_))
 ·refine OL (OL (cI q (fun q=>?_) (fun q=>?_)))
  ·cases sE q
   refine OL (AI rfl (E4 [] (R3 (AI TV TV))))
  refine OL ?_
  obtain ⟨r1,h,q⟩:=bE q
  refine OL (cA H213 (8:Int) h rfl (AI rfl (K0 ?_)))
  obtain ⟨r2,h,q⟩:=bE q
  refine OL (cA H207 (x_,r1) h rfl (R2 (K0 ?_)))
  cases sE q
  refine AI rfl (E4 [] (R3 (AI TV TV)))
 refine OL (cI q (fun q=>?_) (fun q=>?_))
 ·refine OL ?_
  obtain ⟨r3,hr3,q⟩:=bE q
  have hr3:C214.F (x_,(-4294967296:Int),(4294967296:Int))=some r3:=hr3
  refine OL (cA H214 _ hr3 rfl (R3 (K0 ?_)))
  cases sE q
  refine AI rfl (E4 [] (R3 (AI TV TV)))
 refine OL (cI q (fun q=>?_) (fun q=>?_))
 ·refine OL (OL (cI q (fun q=>?_) (fun q=>?_)))
  ·refine OL ?_
   obtain ⟨r4,h,q⟩:=bE q
   refine OL (cA H215 x_ h rfl (AI rfl (K0 ?_)))
   cases sE q
   refine AI rfl (E4 [] (R3 (AI TV TV)))
  cases sE q
  refine OL (AI rfl (E4 [] (R3 (AI TV TV))))
 refine OL (cI q (fun q=>?_) (fun q=>?_))
 ·refine OL ?_
  obtain ⟨r5,h,q⟩:=bE q
  refine OL (cA H213 (2:Int) h rfl (AI rfl (K0 ?_)))
  obtain ⟨r6,h,q⟩:=bE q
  refine OL (cA H207 (x_,r5) h rfl (R2 (K0 ?_)))
  obtain ⟨r7,h,q⟩:=bE q
  refine OL (cA H167 (r6,(2147483648:Int)) h rfl (R2 (K0 ?_)))
  obtain ⟨r8,h,q⟩:=bE q
  refine OL (cA H214 (r7,(0:Int),(4294967296:Int)) h rfl (R3 (K0 ?_)))
  cases sE q
  refine AI rfl (E4 [] (R3 (AI TV TV)))
 cases sE q
 refine OL (AI rfl (E4 [] (R3 (AI TV TV))))
theorem H186:HI C186 186:=hI Tryz.f186 rfl fun x=>V186 x.1 x.2
def f149_j3 (kind:Int) (t:Fy):Option Bool:=
 Ey (f185 kind) fun r9=>
 bif (!r9) then
 some true
 else
 Ey (f91 (t.1,t.2)) fun r10=>
 some (!r10)
def f149_j2 (kind:Int) (t:Fy):Option (Sum Unit Unit):=
 Ey (f149_j3 kind t) fun z8=>
 bif z8 then
 some (Sum.inr ())
 else
 some (Sum.inl ())
def f149_l4 (kind:Int) (t:Fy) (go:K4→Option LI) (v23:Int) (l3:LI):Option LI:=
 bif (decide (v23<t.2.length)) then
 E9 (0≤v23∧v23<t.2.length)<|
 Ey (f186 kind (rd 0 t.2 v23)) fun q7_5=>
 E9 (0≤v23∧v23<l3.length)<|
 go ((i64.wrap (v23+1)),(List.set l3 (Int.toNat v23) q7_5.1))
 else
 some l3
def f149 (kind:Int) (t:Fy):Option Gz:=
 Ey (f149_j2 kind t) fun z5=>
 Fx z5 (fun z5a=>
 Ey (f49 (t.1,t.2)) fun r11=>
 Ey (Fq (fun go x=>f149_l4 kind t go x.1 x.2) Fv ((0:Int),r11.2)) fun z12=>
 some ((0:Int),r11.1,z12)) (fun z5b=>
 some ((1:Int),[],[]))
def C149:Con:=⟨Gz,Gz,0,fun x=>[.dat T1 x.1,.dat T9 x.2],NX,fun x=>f149 x.1 x.2,fun y=>[.raw true [(.osl 0),(.osl 1)],.dat T1 y.1],fun y=>[(0,.arr 3 T1 y.2.1),(1,.arr 57 T1 y.2.2)],2⟩
theorem V149 kind t y (q:f149 kind t=some y):VC Tryz.f149 C149 (kind,t) y:=by
 unfold f149 at q
 refine OL ?_
 obtain ⟨z5,hz5,q⟩:=bE q
 refine OQ ⟨Sum.elim (fun z5a=>[(0,⟨[(0,.dat T1 kind),(3,P0 0 0),(4,P0 1 0)],[(0,.cells [(.d T6 t.1),(.d T6 t.2)]),(1,.cells [N0,N0])],2⟩)]) (fun z5b=>[(1,⟨[(4,P0 0 0),(5,D0 1)],[(0,.cells [N0,N0])],1⟩)]) z5,?_,?_⟩
 ·have q:=hz5
  clear hz5
  unfold f149_j2 at q
  obtain ⟨z8,hz8,q⟩:=bE q
  refine OQ ⟨[(0,⟨[(0,.dat T1 kind),(3,P0 0 0),(4,P0 1 0),(16,.dat .bool z8)],[(0,.cells [(.d T6 t.1),(.d T6 t.2)]),(1,.cells [N0,N0])],2⟩)],?_,?_⟩
  ·have q:=hz8
   clear hz8
   unfold f149_j3 at q
   obtain ⟨r9,h,q⟩:=bE q
   refine OL (cA H185 kind h rfl (AI rfl (K0 (cN q (fun q=>?_) (fun q=>?_)))))
   ·refine gY ?_
    obtain ⟨r10,h,q⟩:=bE q
    refine OL (cA H91 (t.1,t.2) h rfl (R2 (K0 (gY (cF ?_)))))
    cases sE q
    refine E4 I2 (R3 (AI (R2 TV) (R2 TV)))
   refine gN (gN (cT ?_))
   cases sE q
   refine E4 I2 (R3 (AI (R2 TV) (R2 TV)))
  refine AI (cI q (fun q=>?_) (fun q=>?_)) TV
  ·refine OL (OL ?_)
   cases sE q
   refine E4 (iuR [2]) (R2 (AJ (AI rfl TV)))
  cases sE q
  refine E4 I2 (R2 (AI (R2 TV) (R2 TV)))
 rcases z5 with z5a | z5b
 ·dsimp only [Fx] at q
  refine AI (OL ?_) TV
  obtain ⟨r11,h,q⟩:=bE q
  refine OL (cA H49 (t.1,t.2) h rfl (R2 (K0 (OL (OL (OL ?_))))))
  obtain ⟨z12,hz12,q⟩:=bE q
  let h0:LH:=fun zz=>(0,.cells [N0,N0])::(1,.cells [(.osl 2),(.osl 3)])::(2,.arr 3 T1 r11.1)::zz
  refine lJ hz12 (fun x=>⟨[(0,.dat T1 kind),(4,P0 0 0),(6,P0 1 0),(21,.dat T6 t.2),(22,.dat T1 (t.2.length:Int)),(23,.dat T1 x.1)],h0 [(3,.arr 57 T1 x.2)],4⟩) (fun z=>[(2,⟨[(4,P0 0 0),(6,P0 1 0)],h0 [(3,.arr 57 T1 z)],4⟩)]) (E4 (iuR [2,5,3,4]) (R5 (AI (R2 TV) (R4 TV)))) (fun m=>F3 (fun v23=>fun l3 z q=>?_)) ?_
  ·have q:f149_l4 kind t _ v23 l3=some z:=q
   unfold f149_l4 at q
   refine OL (OL (cI q (fun q=>?_) (fun q=>?_)))
   ·refine OL (OL (gI q (fun q=>?_)))
    refine EI (tU 0 5 (.alt 5 (tU 6 4 (.alt 10 .done .done)) .done)) (EI [] (EI [] (AI rfl (AI TV ?_))))
    obtain ⟨q7_5,h,q⟩:=bE q
    refine OL (cA H186 (kind,(rd 0 t.2 v23)) h rfl (R2 (K0 (gI q (fun q=>?_)))))
    refine AI TV (OL (EI ((i64.wrap (v23+1)),(List.set l3 (Int.toNat v23) q7_5.1)) (AI q (E4 I4 (R5 (AI (R2 TV) (R4 TV)))))))
   cases sE q
   refine E4 I4 (AI rfl (AI (R2 TV) (R4 TV)))
  refine AI (OL (OL ?_)) TV
  cases sE q
  refine AI rfl (E4 (iuR [3,4]) (R2 (AJ (R2 TV))))
 dsimp only [Fx] at q
 refine AI ?_ TV
 cases sE q
 refine AI rfl (E4 (iuR [0,0]) (R2 (AJ (R2 TV))))
theorem H149:HI C149 149:=hI Tryz.f149 rfl fun x=>V149 x.1 x.2
def f150_j3 (a:Fy) (wid:Int):Option Bool:=
 bif (decide (wid<1)) then
 some true
 else
 E9 (0≤(1:Int)∧1<(a.1.length:Int))<|
 some (decide (wid>(rd 0 a.1 1)))
def f150_j2 (a:Fy) (wid:Int):Option (Sum Unit Int):=
 Ey (f91 (a.1,a.2)) fun r4=>
 bif (!r4) then
 some (Sum.inr (1:Int))
 else
 bif ((a.1.length:Int) != 2) then
 some (Sum.inr (4:Int))
 else
 Ey (f150_j3 a wid) fun z5=>
 bif z5 then
 some (Sum.inr (1:Int))
 else
 some (Sum.inl ())
def f150_l7 (a:Fy) (wid v61:Int) (go:F9→Option Int) (best at_:Int):Option Int:=
 E9 ((i64.wrap (Int.tdiv (rd 0 a.1 1) wid))≠0)<|
 E9 ((i64.wrap (Int.tdiv (rd 0 a.1 1) wid))≠0)<|
 bif (decide (at_<(i64.wrap ((i64.wrap ((i64.wrap ((i64.wrap (Int.tdiv v61 (i64.wrap (Int.tdiv (rd 0 a.1 1) wid))))*(rd 0 a.1 1)))+(i64.wrap ((Int.tmod v61 (i64.wrap (Int.tdiv (rd 0 a.1 1) wid)))*wid))))+wid)))) then
 E9 (0≤at_∧at_<a.2.length)<|
 E9 (0≤best∧best<a.2.length)<|
 bif (decide ((rd 0 a.2 at_)>(rd 0 a.2 best))) then
 go (at_,(i64.wrap (at_+1)))
 else
 go (best,(i64.wrap (at_+1)))
 else
 some best
def f150_l6 (a:Fy) (wid:Int) (q7_11:Gz) (go:Gz→Option Fy) (v61:Int) (l3 l5:LI):Option Fy:=
 bif (decide (v61<q7_11.2.2.length)) then
 E9 ((i64.wrap (Int.tdiv (rd 0 a.1 1) wid))≠0)<|
 E9 ((i64.wrap (Int.tdiv (rd 0 a.1 1) wid))≠0)<|
 Ey (Fq (fun go x=>f150_l7 a wid v61 go x.1 x.2) Fv ((i64.wrap ((i64.wrap ((i64.wrap (Int.tdiv v61 (i64.wrap (Int.tdiv (rd 0 a.1 1) wid))))*(rd 0 a.1 1)))+(i64.wrap ((Int.tmod v61 (i64.wrap (Int.tdiv (rd 0 a.1 1) wid)))*wid)))),(i64.wrap ((i64.wrap ((i64.wrap ((i64.wrap (Int.tdiv v61 (i64.wrap (Int.tdiv (rd 0 a.1 1) wid))))*(rd 0 a.1 1)))+(i64.wrap ((Int.tmod v61 (i64.wrap (Int.tdiv (rd 0 a.1 1) wid)))*wid))))+1)))) fun z9=>
 E9 (0≤z9∧z9<a.2.length)<|
 E9 (0≤v61∧v61<l5.length)<|
 E9 ((l3.length+List.length ([z9]))*8≤140737488355328)<|
 go ((i64.wrap (v61+1)),(l3++([z9])),(List.set l5 (Int.toNat v61) (rd 0 a.2 z9)))
 else
 some (l3,l5)
def f150 (a:Fy) (wid:Int):Option (Int×LI×Fy):=
 Ey (f150_j2 a wid) fun z3=>
 Fx z3 (fun z3a=>
 E9 (0≤(1:Int)∧1<(a.1.length:Int))<|
 E9 (0≤(1:Int)∧1<(a.1.length:Int))<|
 E9 (wid≠0)<|
 E9 (0≤(0:Int)∧0<(a.1.length:Int))<|
 Ey (f175 ([(rd 0 a.1 0),(i64.wrap (Int.tdiv (rd 0 a.1 1) wid))])) fun q7_11=>
 Ey (Fq (fun go x=>f150_l6 a wid q7_11 go x.1 x.2.1 x.2.2) Fv ((0:Int),[],q7_11.2.2)) fun z8=>
 some ((0:Int),q7_11.2.1,z8.2,z8.1)) (fun z3b=>
 some (z3b,[],[],[]))
def C150:Con:=⟨Fy×Int,Int×LI×Fy,0,fun x=>[.dat T9 x.1,.dat T1 x.2],NX,fun x=>f150 x.1 x.2,fun y=>[.raw true [(.osl 0),(.osl 1)],O0 2,.dat T1 y.1],fun y=>[(0,.arr 3 T1 y.2.1),(1,.arr 57 T1 y.2.2.1),(2,.arr 3 T1 y.2.2.2)],3⟩
theorem V150 a wid y (q:f150 a wid=some y):VC Tryz.f150 C150 (a,wid) y:=by
 unfold f150 at q
 refine OL ?_
 obtain ⟨z3,hz3,q⟩:=bE q
 let e0:LE:=fun zz=>(1,.dat T1 wid)::(2,P0 0 0)::(4,P0 1 0)::zz
 let h1:LH:=fun zz=>(0,.cells [(.d T6 a.1),(.d T6 a.2)])::(1,.cells [N0,N0])::zz
 refine OQ ⟨Sum.elim (fun z3a=>[(0,⟨e0 [],h1 [],2⟩)]) (fun z3b=>[(1,⟨[(4,P0 0 0),(5,.raw false [N0]),(6,.dat T1 z3b)],[(0,.cells [N0,N0])],1⟩)]) z3,?_,?_⟩
 ·have q:=hz3
  clear hz3
  unfold f150_j2 at q
  refine OL ?_
  obtain ⟨r4,h,q⟩:=bE q
  refine OL (cA H91 (a.1,a.2) h rfl (R2 (K0 (cI q (fun q=>?_) (fun q=>?_)))))
  ·refine OL (OL ?_)
   cases sE q
   refine E4 (iuR [2]) (R2 (AI (R2 TV) (AI rfl TV)))
  refine OL (cI q (fun q=>?_) (fun q=>?_))
  ·refine OL (OL ?_)
   cases sE q
   refine E4 (iuR [2]) (R2 (AI (R2 TV) (AI rfl TV)))
  obtain ⟨z5,hz5,q⟩:=bE q
  refine OQ ⟨[(0,⟨e0 [(26,.dat .bool z5)],h1 [],2⟩)],?_,?_⟩
  ·have q:=hz5
   clear hz5
   unfold f150_j3 at q
   refine cN q (fun q=>?_) (fun q=>?_)
   ·refine gY (gY (gY (gI q (fun q=>?_))))
    refine gY (gY (cF ?_))
    cases sE q
    refine E4 I2 (R3 (AI (R2 TV) (R2 TV)))
   refine gN (gN (gN (gN (gN (cT ?_)))))
   cases sE q
   refine E4 I2 (R3 (AI (R2 TV) (R2 TV)))
  refine AI (cI q (fun q=>?_) (fun q=>?_)) TV
  ·refine OL (OL ?_)
   cases sE q
   refine E4 (iuR [2]) (R2 (AI (R2 TV) (AI rfl TV)))
  cases sE q
  refine E4 I2 (R2 (AI (R2 TV) (R2 TV)))
 rcases z3 with z3a | z3b
 ·dsimp only [Fx] at q
  refine AI (OL (EI (tU 0 12 .done) (EI [] (EI [] (AI rfl (gI q (fun q=>?_))))))) TV
  refine gI q (fun q=>?_)
  refine gI q (fun q=>?_)
  refine OL (gI q (fun q=>?_))
  refine OL ?_
  obtain ⟨q7_11,h,q⟩:=bE q
  refine OL (cD H175 [(rd 0 a.1 0),(i64.wrap (Int.tdiv (rd 0 a.1 1) wid))] h rfl (AI rfl (AI (fun _=>rfl) (R2 (AI TV (AI TV (OL (OL (OL (OL ?_))))))))))
  obtain ⟨z8,hz8,q⟩:=bE q
  let e2:LE:=fun zz=>e0 ((7,.dat T1 (rd 0 a.1 1))::(8,.dat T1 (i64.wrap (Int.tdiv (rd 0 a.1 1) wid)))::(9,P0 2 0)::(11,O0 3)::zz)
  let h3:LH:=fun zz=>h1 ((2,.cells [(.osl 4),(.osl 5)])::zz)
  refine lJ hz8 (fun x=>⟨e2 [(60,.dat T1 (q7_11.2.2.length:Int)),(61,.dat T1 x.1)],h3 [(3,.arr 3 T1 x.2.1),(4,.arr 3 T1 q7_11.2.1),(5,.arr 57 T1 x.2.2)],6⟩) (fun z=>[(3,⟨[(4,P0 0 0),(9,P0 1 0),(11,O0 2)],[(0,.cells [N0,N0]),(1,.cells [(.osl 3),(.osl 4)]),(2,.arr 3 T1 z.1),(3,.arr 3 T1 q7_11.2.1),(4,.arr 57 T1 z.2)],5⟩)]) (E4 (iuR [1,2,6,0,4,5]) (R6 (AI (R4 TV) (R6 TV)))) (fun m=>F3 (fun v61=>F3 (fun l3=>fun l5 z q=>?_))) ?_
  ·have q:f150_l6 a wid q7_11 _ v61 l3 l5=some z:=q
   unfold f150_l6 at q
   refine OL (OL (cI q (fun q=>?_) (fun q=>?_)))
   ·refine OL (OL (OL (EI (tU 0 12 .done) (EI [] (EI [] (AI rfl (gI q (fun q=>?_))))))))
    refine gI q (fun q=>?_)
    refine OL (OL ?_)
    obtain ⟨z9,hz9,q⟩:=bE q
    let h4:LH:=fun zz=>h3 ((3,.arr 3 T1 l3)::(4,.arr 3 T1 q7_11.2.1)::(5,.arr 57 T1 l5)::zz)
    refine lJ hz9 (fun x=>⟨e2 [(12,.dat T1 v61),(13,.dat T1 x.1),(14,.dat T1 x.2),(60,.dat T1 (q7_11.2.2.length:Int)),(61,.dat T1 v61)],h4 [],6⟩) (fun z=>[(5,⟨e2 [(12,.dat T1 v61),(13,.dat T1 z),(60,.dat T1 (q7_11.2.2.length:Int)),(61,.dat T1 v61)],h4 [],6⟩)]) (E4 I6 (R9 (AI (R4 TV) (R6 TV)))) (fun m=>F3 (fun best=>fun at_ z q=>?_)) ?_
    ·have q:f150_l7 a wid v61 _ best at_=some z:=q
     unfold f150_l7 at q
     refine OL (OL (EI (tU 0 15 .done) (EI [] (EI [] (AI rfl (gI q (fun q=>?_)))))))
     refine gI q (fun q=>?_)
     refine cI q (fun q=>?_) (fun q=>?_)
     ·refine OL (OL (EI (tU 0 11 .done) (EI [] (EI [] (AI rfl (gI q (fun q=>?_)))))))
      refine gI q (fun q=>?_)
      refine cI q (fun q=>?_) (fun q=>?_)
      ·refine EI (at_,(i64.wrap (at_+1))) (AI q (E4 I6 (R9 (AI (R4 TV) (R6 TV)))))
      refine EI (best,(i64.wrap (at_+1))) (AI q (E4 I6 (R9 (AI (R4 TV) (R6 TV)))))
     cases sE q
     refine E4 I6 (R8 (AI (R4 TV) (R6 TV)))
    refine AI (OL (EI (tU 0 9 (.alt 9 .done .done)) (EI [] (EI [] (AI rfl (gI q (fun q=>?_))))))) TV
    refine gI q (fun q=>?_)
    refine AI TV (OL (OL (OL (gI q (fun q=>?_)))))
    refine EI ((i64.wrap (v61+1)),(l3++([z9])),(List.set l5 (Int.toNat v61) (rd 0 a.2 z9))) (AI q (E4 (iuR [1,2,3,8,5,6]) (R6 (AI (R4 TV) (R6 TV)))))
   cases sE q
   refine E4 (iuR [2,3,4,5,6]) (AI rfl (AI (R3 TV) (R5 TV)))
  refine AI (OL (OL ?_)) TV
  cases sE q
  refine AI rfl (E4 (iuR [4,5,3]) (R2 (AI (R2 TV) (R3 TV))))
 dsimp only [Fx] at q
 refine AI ?_ TV
 cases sE q
 refine AI rfl (E4 (iuR [0,0,0]) (R2 (AI (R2 TV) (R3 TV))))
theorem H150:HI C150 150:=hI Tryz.f150 rfl fun x=>V150 x.1 x.2
def f151_j3 (a:Fy) (d:LI):Option Bool:=
 Ey (f91 (a.1,a.2)) fun r8=>
 bif (!r8) then
 some true
 else
 Ey (f65 d) fun r9=>
 some (!r9)
def f151_j2 (a:Fy) (d:LI):Option (Sum Unit Int):=
 Ey (f151_j3 a d) fun z7=>
 bif z7 then
 some (Sum.inr (1:Int))
 else
 Ey (f117 d) fun q3_1=>
 bif (q3_1 != a.2.length) then
 some (Sum.inr (4:Int))
 else
 some (Sum.inl ())
def f151 (a:Fy) (d:LI):Option Gz:=
 Ey (f151_j2 a d) fun z5=>
 Fx z5 (fun z5a=>
 Ey (f61 d) fun q5_1=>
 Ey (f75 a.2) fun q5_4=>
 some ((0:Int),q5_1,q5_4)) (fun z5b=>
 some (z5b,[],[]))
def C151:Con:=⟨Fy×LI,Gz,0,fun x=>[.dat T9 x.1,.dat T6 x.2],NX,fun x=>f151 x.1 x.2,fun y=>[.raw true [(.osl 0),(.osl 1)],.dat T1 y.1],fun y=>[(0,.arr 3 T1 y.2.1),(1,.arr 57 T1 y.2.2)],2⟩
theorem V151 a d y (q:f151 a d=some y):VC Tryz.f151 C151 (a,d) y:=by
 unfold f151 at q
 refine OL ?_
 obtain ⟨z5,hz5,q⟩:=bE q
 refine OQ ⟨Sum.elim (fun z5a=>[(0,⟨[(1,.dat T6 d),(2,P0 0 0),(4,P0 1 0)],[(0,.cells [(.d T6 a.1),(.d T6 a.2)]),(1,.cells [N0,N0])],2⟩)]) (fun z5b=>[(1,⟨[(4,P0 0 0),(5,.dat T1 z5b)],[(0,.cells [N0,N0])],1⟩)]) z5,?_,?_⟩
 ·have q:=hz5
  clear hz5
  unfold f151_j2 at q
  obtain ⟨z7,hz7,q⟩:=bE q
  refine OQ ⟨[(0,⟨[(1,.dat T6 d),(2,P0 0 0),(4,P0 1 0),(6,.dat .bool z7)],[(0,.cells [(.d T6 a.1),(.d T6 a.2)]),(1,.cells [N0,N0])],2⟩)],?_,?_⟩
  ·have q:=hz7
   clear hz7
   unfold f151_j3 at q
   obtain ⟨r8,h,q⟩:=bE q
   refine OL (cA H91 (a.1,a.2) h rfl (R2 (K0 (cN q (fun q=>?_) (fun q=>?_)))))
   ·refine gY ?_
    obtain ⟨r9,h,q⟩:=bE q
    refine OL (cA H65 d h rfl (AI rfl (K0 (gY (cF ?_)))))
    cases sE q
    refine E4 I2 (R3 (AI (R2 TV) (R2 TV)))
   refine gN (gN (cT ?_))
   cases sE q
   refine E4 I2 (R3 (AI (R2 TV) (R2 TV)))
  refine AI (cI q (fun q=>?_) (fun q=>?_)) TV
  ·refine OL (OL ?_)
   cases sE q
   refine E4 (iuR [2]) (R2 (AJ (AI rfl TV)))
  refine OL (EI (.take 0 (tU 2 3 (.alt 1 (.take 5 (.take 6 .done)) .done))) (EI [] (EI [] (AI rfl (AI TV ?_)))))
  obtain ⟨q3_1,h,q⟩:=bE q
  refine OL (cA H117 d h rfl (AI rfl (K0 (cI q (fun q=>?_) (fun q=>?_)))))
  ·refine OL (OL ?_)
   cases sE q
   refine E4 (iuR [2]) (R2 (AJ (AI rfl TV)))
  cases sE q
  refine E4 I2 (R2 (AI (R2 TV) (R2 TV)))
 rcases z5 with z5a | z5b
 ·dsimp only [Fx] at q
  refine AI (OL (EI (.take 0 (.take 2 (.take 3 (.alt 1 (.alt 4 (.take 5 (.alt 6 (.take 7 .done) .done)) .done) .done)))) (EI [] (EI [] (AI rfl (AI TV ?_)))))) TV
  obtain ⟨q5_1,h,q⟩:=bE q
  refine OL (cA H61 d h rfl (AI rfl (K0 (AI TV ?_))))
  obtain ⟨q5_4,h,q⟩:=bE q
  refine OL (cA H75 a.2 h rfl (AI rfl (K0 (AI TV (OL ?_)))))
  cases sE q
  refine AI rfl (E4 (iuR [3,4]) (R2 (AJ (R2 TV))))
 dsimp only [Fx] at q
 refine AI ?_ TV
 cases sE q
 refine AI rfl (E4 (iuR [0,0]) (R2 (AJ (R2 TV))))
theorem H151:HI C151 151:=hI Tryz.f151 rfl fun x=>V151 x.1 x.2
def f121 (op:Int) (a:Fy) (k:Int):Option Gz:=
 bif (op==5) then
 Ey (f143 (a.1,a.2) k) fun r1=>
 some (r1.1,r1.2.1,r1.2.2)
 else
 bif (op==7) then
 Ey (f144 (a.1,a.2)) fun r2=>
 some (r2.1,r2.2.1,r2.2.2)
 else
 bif (op==8) then
 Ey (f145 (a.1,a.2) k) fun r3=>
 some (r3.1,r3.2.1,r3.2.2)
 else
 bif (op==9) then
 Ey (f147 (a.1,a.2)) fun r4=>
 Ey (f146 r4.1 r4.2) fun r5=>
 some (r5.1,r5.2.1,r5.2.2)
 else
 bif (op==10) then
 Ey (f148 (a.1,a.2)) fun r6=>
 Ey (f146 r6.1 r6.2) fun r7=>
 some (r7.1,r7.2.1,r7.2.2)
 else
 bif (op==11) then
 Ey (f149 k (a.1,a.2)) fun r8=>
 some (r8.1,r8.2.1,r8.2.2)
 else
 bif (op==13) then
 Ey (f150 (a.1,a.2) k) fun r9=>
 some (r9.1,r9.2.1,r9.2.2.1)
 else
 Ey (f151 (a.1,a.2) ([(a.2.length:Int)])) fun r10=>
 some (r10.1,r10.2.1,r10.2.2)
def C121:Con:=⟨Int×Fy×Int,Gz,0,fun x=>[.dat T1 x.1,.dat T9 x.2.1,.dat T1 x.2.2],NX,fun x=>f121 x.1 x.2.1 x.2.2,fun y=>[.raw true [(.osl 0),(.osl 1)],.dat T1 y.1],fun y=>[(0,.arr 3 T1 y.2.1),(1,.arr 57 T1 y.2.2)],2⟩
theorem V121 op a k y (q:f121 op a k=some y):VC Tryz.f121 C121 (op,a,k) y:=by
 unfold f121 at q
 refine OL (OL (OL (OL (cI q (fun q=>?_) (fun q=>?_)))))
 ·refine OL ?_
  obtain ⟨r1,h,q⟩:=bE q
  refine OL (cA H143 ((a.1,a.2),k) h rfl (R3 (K0 (OL ?_))))
  cases sE q
  refine AI rfl (E4 (iuR [3,4]) (R2 (AJ (R2 TV))))
 refine OL (cI q (fun q=>?_) (fun q=>?_))
 ·refine OL ?_
  obtain ⟨r2,h,q⟩:=bE q
  refine OL (cA H144 (a.1,a.2) h rfl (R2 (K0 (OL ?_))))
  cases sE q
  refine AI rfl (E4 (iuR [3,4]) (R2 (AJ (R2 TV))))
 refine OL (cI q (fun q=>?_) (fun q=>?_))
 ·refine OL ?_
  obtain ⟨r3,h,q⟩:=bE q
  refine OL (cA H145 ((a.1,a.2),k) h rfl (R3 (K0 (OL ?_))))
  cases sE q
  refine AI rfl (E4 (iuR [3,4]) (R2 (AJ (R2 TV))))
 refine OL (cI q (fun q=>?_) (fun q=>?_))
 ·refine OL ?_
  obtain ⟨r4,h,q⟩:=bE q
  refine OL (cA H147 (a.1,a.2) h rfl (R2 (K0 ?_)))
  obtain ⟨r5,h,q⟩:=bE q
  refine OL (cA H146 (r4.1,r4.2) h rfl (R2 (K0 (OL ?_))))
  cases sE q
  refine AI rfl (E4 (iuR [3,4]) (R2 (AJ (R2 TV))))
 refine OL (cI q (fun q=>?_) (fun q=>?_))
 ·refine OL ?_
  obtain ⟨r6,h,q⟩:=bE q
  refine OL (cA H148 (a.1,a.2) h rfl (R2 (K0 ?_)))
  obtain ⟨r7,h,q⟩:=bE q
  refine OL (cA H146 (r6.1,r6.2) h rfl (R2 (K0 (OL ?_))))
  cases sE q
  refine AI rfl (E4 (iuR [3,4]) (R2 (AJ (R2 TV))))
 refine OL (cI q (fun q=>?_) (fun q=>?_))
 ·refine OL ?_
  obtain ⟨r8,h,q⟩:=bE q
  refine OL (cA H149 (k,(a.1,a.2)) h rfl (R3 (K0 (OL ?_))))
  cases sE q
  refine AI rfl (E4 (iuR [3,4]) (R2 (AJ (R2 TV))))
 refine OL (cI q (fun q=>?_) (fun q=>?_))
 ·refine OL ?_
  obtain ⟨r9,h,q⟩:=bE q
  refine OL (cA H150 ((a.1,a.2),k) h rfl (R3 (K0 (OL (OL (OL ?_))))))
  cases sE q
  refine AI rfl (E4 (iuR [3,4]) (R2 (AJ (R2 TV))))
 refine OL (OL ?_)
 obtain ⟨r10,h,q⟩:=bE q
 refine OL (cD H151 ((a.1,a.2),[(a.2.length:Int)]) h rfl (R3 (AI (fun _=>rfl) (R2 (AI TV (AI TV (OL ?_)))))))
 cases sE q
 refine AI rfl (E4 (iuR [4,5]) (R2 (AJ (R2 TV))))
theorem H121:HI C121 121:=hI Tryz.f121 rfl fun x=>V121 x.1 x.2.1 x.2.2
def f93_j1 (t_l:NL) (op a b:Int):Option (Sum NL (Int×NL)):=
 bif (decide ((t_l.length:Int)≥512)) then
 some (Sum.inr ((2:Int),t_l))
 else
 bif (decide (op<2)) then
 some (Sum.inr ((1:Int),t_l))
 else
 bif (decide (op>14)) then
 some (Sum.inr ((1:Int),t_l))
 else
 Ey (f48 t_l a) fun r5=>
 bif (!r5.1) then
 some (Sum.inr ((1:Int),r5.2))
 else
 Ey (f118 op) fun r6=>
 bif r6 then
 Ey (f48 r5.2 b) fun r7=>
 bif (!r7.1) then
 some (Sum.inr ((1:Int),r7.2))
 else
 some (Sum.inl r7.2)
 else
 some (Sum.inl r5.2)
def f93_j2 (op k:Int):Option Int:=
 Ey (f119 op) fun r10=>
 bif r10 then
 some k
 else
 some (0:Int)
def f93_j3 (op a b k:Int) (z4a:NL):Option (Int×Gz):=
 Ey (f118 op) fun r13=>
 bif r13 then
 E9 (0≤a∧a<z4a.length)<|
 E9 (0≤b∧b<z4a.length)<|
 Ey (f120 op ((((((rd (Ty.z T8) z4a a).2).2).2).2).1,(((((rd (Ty.z T8) z4a a).2).2).2).2).2) ((((((rd (Ty.z T8) z4a b).2).2).2).2).1,(((((rd (Ty.z T8) z4a b).2).2).2).2).2) k) fun q11_18=>
 some (q11_18.1,b,q11_18.2.1,q11_18.2.2)
 else
 E9 (0≤a∧a<z4a.length)<|
 Ey (f121 op ((((((rd (Ty.z T8) z4a a).2).2).2).2).1,(((((rd (Ty.z T8) z4a a).2).2).2).2).2) k) fun q11_24=>
 some (q11_24.1,(-1:Int),q11_24.2.1,q11_24.2.2)
def f93 (t_l:NL) (op a b k:Int):Option PTz8:=
 Ey (f93_j1 t_l op a b) fun z4=>
 Fx z4 (fun z4a=>
 Ey (f93_j2 op k) fun z9=>
 Ey (f93_j3 op a b k z4a) fun z12=>
 bif (z12.1 != 0) then
 some ((0:Int),z12.1,z4a)
 else
 Ey (f92 z4a (op,a,z12.2.1,z9,z12.2.2.1,z12.2.2.2)) fun r14=>
 some (r14.1,(0:Int),r14.2)) (fun z4b=>
 some ((0:Int),z4b.1,z4b.2))
def C93:Con:=⟨NL×PTz1,PTz8,2,fun x=>[P0 0 0,.dat T1 x.2.1,.dat T1 x.2.2.1,.dat T1 x.2.2.2.1,.dat T1 x.2.2.2.2],fun x=>[(0,.cells [(.osl 1)]),(1,.arr 61 T8 x.1)],fun x=>f93 x.1 x.2.1 x.2.2.1 x.2.2.2.1 x.2.2.2.2,fun y=>[.dat T1 y.1,.dat T1 y.2.1],fun y=>[(0,.cells [(.osl 2)]),(2,.arr 61 T8 y.2.2)],3⟩
theorem V93 t_l op a b k y (q:f93 t_l op a b k=some y):VE Tryz.f93 2 C93 (t_l,op,a,b,k) y:=by
 unfold f93 at q
 refine OL ?_
 obtain ⟨z4,hz4,q⟩:=bE q
 let e0:LE:=fun zz=>(0,P0 0 0)::(1,.dat T1 op)::(2,.dat T1 a)::(3,.dat T1 b)::(4,.dat T1 k)::zz
 refine OQ ⟨Sum.elim (fun z4a=>[(0,⟨e0 [],[(0,.cells [(.osl 1)]),(1,.arr 61 T8 z4a)],2⟩)]) (fun z4b=>[(1,⟨[(10,D0 0),(11,.dat T1 z4b.1)],[(0,.cells [(.osl 1)]),(1,.arr 61 T8 z4b.2)],2⟩)]) z4,?_,?_⟩
 ·have q:=hz4
  clear hz4
  unfold f93_j1 at q
  refine OL (cI q (fun q=>?_) (fun q=>?_))
  ·cases sE q
   refine OL (E4 I2 (R3 (AI TV (R2 TV))))
  refine OL (cN q (fun q=>?_) (fun q=>?_))
  ·refine gY (cF (cN q (fun q=>?_) (fun q=>?_)))
   ·refine gY (gY ?_)
    obtain ⟨r5,h,q⟩:=bE q
    refine OL (cB H48 (t_l,a) I2 false h rfl (AI rfl (AI NH (R2 (AJ (AI (R2 TV) (gY (cF (cN q (fun q=>?_) (fun q=>?_))))))))))
    ·refine gY ?_
     obtain ⟨r6,h,q⟩:=bE q
     refine OL (cA H118 op h rfl (AI rfl (K0 (gY (cI q (fun q=>?_) (fun q=>?_))))))
     ·refine gX (gX ?_)
      obtain ⟨r7,h,q⟩:=bE q
      refine OL (cB H48 (r5.2,b) I2 false h rfl (AI rfl (AI NH (R2 (AJ (AI (R2 TV) (gX (gY (cT (cF (cI q (fun q=>?_) (fun q=>?_))))))))))))
      ·cases sE q
       refine OL (E4 I2 (R3 (AI TV (R2 TV))))
      cases sE q
      refine E4 I2 (R5 (AJ (R2 TV)))
     refine gM (gM (gM (gY (cF (cF (cF ?_))))))
     cases sE q
     refine E4 I2 (R5 (AJ (R2 TV)))
    refine gN (gN (gN (cT (cT (OL ?_)))))
    cases sE q
    refine E4 I2 (R3 (AI TV (R2 TV)))
   refine gN (gN (gN (cT (gN (gN (gN (gN (cT (cT (OL ?_))))))))))
   cases sE q
   refine E4 I2 (R3 (AI TV (R2 TV)))
  refine gN (cT (gN (gN (gN (gN (cT (gN (gN (gN (gN (cT (cT (OL ?_)))))))))))))
  cases sE q
  refine E4 I2 (R3 (AI TV (R2 TV)))
 rcases z4 with z4a | z4b
 ·dsimp only [Fx] at q
  refine AI (OL (OL ?_)) TV
  obtain ⟨z9,hz9,q⟩:=bE q
  refine OQ ⟨[(0,⟨e0 [(12,P0 2 0)],[(0,.cells [(.osl 1)]),(1,.arr 61 T8 z4a),(2,.cells [(.d T1 op),(.d T1 a),(.d T1 (-1:Int)),(.d T1 z9),N0,N0])],3⟩)],?_,?_⟩
  ·have q:=hz9
   clear hz9
   unfold f93_j2 at q
   refine OL ?_
   obtain ⟨r10,h,q⟩:=bE q
   refine OL (cA H119 op h rfl (AI rfl (K0 (cI q (fun q=>?_) (fun q=>?_)))))
   ·cases sE q
    refine OL (E4 I3 (R5 (AI (R2 TV) (R3 TV))))
   cases sE q
   refine E4 I3 (R5 (AI (R2 TV) (R3 TV)))
  refine AI (OL ?_) TV
  obtain ⟨z12,hz12,q⟩:=bE q
  refine OQ ⟨[(0,⟨[(0,P0 0 0),(12,P0 2 0),(13,.dat T1 z12.1)],[(0,.cells [(.osl 1)]),(1,.arr 61 T8 z4a),(2,.cells [(.d T1 op),(.d T1 a),(.d T1 z12.2.1),(.d T1 z9),(.osl 3),(.osl 4)]),(3,.arr 3 T1 z12.2.2.1),(4,.arr 57 T1 z12.2.2.2)],5⟩)],?_,?_⟩
  ·have q:=hz12
   clear hz12
   unfold f93_j3 at q
   refine OL ?_
   obtain ⟨r13,h,q⟩:=bE q
   refine OL (cA H118 op h rfl (AI rfl (K0 (cI q (fun q=>?_) (fun q=>?_)))))
   ·refine OL (OL (EI (tU 0 18 (.alt 18 (tU 19 4 (.alt 23 (.take 24 .done) .done)) .done)) (EI [] (EI [] (AI rfl (gI q (fun q=>?_)))))))
    refine gI q (fun q=>?_)
    refine AI TV ?_
    obtain ⟨q11_18,h,q⟩:=bE q
    refine OL (cA H120 (op,((((((rd (Ty.z T8) z4a a).2).2).2).2).1,(((((rd (Ty.z T8) z4a a).2).2).2).2).2),((((((rd (Ty.z T8) z4a b).2).2).2).2).1,(((((rd (Ty.z T8) z4a b).2).2).2).2).2),k) h rfl (R6 (K0 (AI TV (OL ?_)))))
    cases sE q
    refine E4 I5 (R2 (AI (R2 TV) (R5 TV)))
   refine gI q (fun q=>?_)
   obtain ⟨q11_24,h,q⟩:=bE q
   refine OL (cA H121 (op,((((((rd (Ty.z T8) z4a a).2).2).2).2).1,(((((rd (Ty.z T8) z4a a).2).2).2).2).2),k) h rfl (R4 (K0 (OL ?_))))
   cases sE q
   refine E4 I5 (R2 (AI (R2 TV) (R5 TV)))
  refine AI (OL (OL (cI q (fun q=>?_) (fun q=>?_)))) TV
  ·cases sE q
   refine OL (AI rfl (E4 [(0,some 0),(2,some 1)] (R3 (AI TV (R2 TV)))))
  refine OL ?_
  obtain ⟨r14,h,q⟩:=bE q
  refine OL (cB H92 (z4a,(op,a,z12.2.1,z9,z12.2.2.1,z12.2.2.2)) I2 false h rfl (R2 (AI NH (R2 (AJ (AI (R2 TV) ?_))))))
  cases sE q
  refine AI rfl (E4 [(0,some 0),(2,some 7)] (R3 (AI TV (R2 TV))))
 dsimp only [Fx] at q
 refine AI ?_ TV
 cases sE q
 refine AI rfl (E4 [(0,some 0),(2,some 1)] (R3 (AI TV (R2 TV))))
theorem H93:HI C93 93:=hI Tryz.f93 rfl fun x=>V93 x.1 x.2.1 x.2.2.1 x.2.2.2.1 x.2.2.2.2
def f71 (r_t_l:NL) (r_e:Int) (r_p r_leafs:LI) (op a b k:Int):Option PTz6:=
 bif (r_e != 0) then
 some ((0:Int),r_e,r_p,r_leafs,r_t_l)
 else
 Ey (f93 r_t_l op a b k) fun r1=>
 some (r1.1,r1.2.1,r_p,r_leafs,r1.2.2)
def C71:Con:=⟨NL×Int×LI×LI×PTz1,PTz6,4,fun x=>[P0 0 0,.dat T1 x.2.2.2.2.1,.dat T1 x.2.2.2.2.2.1,.dat T1 x.2.2.2.2.2.2.1,.dat T1 x.2.2.2.2.2.2.2],fun x=>[(0,.cells [(.ptr 1 0),(.d T1 x.2.1),(.d T6 x.2.2.1),(.osl 3)]),(1,.cells [(.osl 2)]),(2,.arr 61 T8 x.1),(3,.arr 3 T1 x.2.2.2.1)],fun x=>f71 x.1 x.2.1 x.2.2.1 x.2.2.2.1 x.2.2.2.2.1 x.2.2.2.2.2.1 x.2.2.2.2.2.2.1 x.2.2.2.2.2.2.2,fun y=>[.dat T1 y.1],fun y=>[(0,.cells [(.ptr 1 0),(.d T1 y.2.1),(.d T6 y.2.2.1),(.osl 3)]),(1,.cells [(.osl 4)]),(3,.arr 3 T1 y.2.2.2.1),(4,.arr 61 T8 y.2.2.2.2)],5⟩
theorem V71 r_t_l r_e r_p r_leafs op a b k y (q:f71 r_t_l r_e r_p r_leafs op a b k=some y):VE Tryz.f71 4 C71 (r_t_l,r_e,r_p,r_leafs,op,a,b,k) y:=by
 unfold f71 at q
 refine OL (OL (OL (cI q (fun q=>?_) (fun q=>?_))))
 ·cases sE q
  refine OL (AI rfl (E4 [(0,some 0),(1,some 1),(3,some 3),(4,some 2)] (R2 (AI TV (R4 TV)))))
 refine OL ?_
 obtain ⟨r1,h,q⟩:=bE q
 refine OL (cB H93 (r_t_l,op,a,b,k) (iuR [2,3]) false h rfl (R4 (AI NH (R2 (AJ (AI (R2 TV) (OL (OL (OL ?_)))))))))
 cases sE q
 refine AI rfl (E4 [(0,some 0),(1,some 1),(3,some 3),(4,some 6)] (R2 (AI TV (R4 TV))))
theorem H71:HI C71 71:=hI Tryz.f71 rfl fun x=>V71 x.1 x.2.1 x.2.2.1 x.2.2.2.1 x.2.2.2.2.1 x.2.2.2.2.2.1 x.2.2.2.2.2.2.1 x.2.2.2.2.2.2.2
def f44_j1 (in_:LI) (x_:Int) (r2:Int×PTz6):Option PTz6:=
 bif ((in_.length:Int)==2) then
 Ey (f71 r2.2.2.2.2.2 r2.2.2.1 r2.2.2.2.1 r2.2.2.2.2.1 (14:Int) x_ (0:Int) (0:Int)) fun r5=>
 some (r5.1,r5.2.1,r5.2.2.1,r5.2.2.2.1,r5.2.2.2.2)
 else
 some (x_,r2.2.2.1,r2.2.2.2.1,r2.2.2.2.2.1,r2.2.2.2.2.2)
def f44 (r_t_l:NL) (r_e:Int) (r_p r_leafs:LI) (l:PTz12) (in_:LI) (x_ ahead:Int):Option PTz6:=
 Ey (f64 (l.1,l.2.1,l.2.2) in_) fun r1=>
 Ey (f70 r_t_l r_e r_p r_leafs r1) fun r2=>
 bif (ByteArray.toList l.1==ByteArray.toList (ByteArray.mk #[100,101,110,115,101])) then
 Ey (f44_j1 in_ x_ r2) fun z4=>
 Ey (f71 z4.2.2.2.2 z4.2.1 z4.2.2.1 z4.2.2.2.1 (4:Int) r2.1 z4.1 (0:Int)) fun r6=>
 Ey (f71 r6.2.2.2.2 r6.2.1 r6.2.2.1 r6.2.2.2.1 (8:Int) r6.1 (0:Int) (1:Int)) fun r7=>
 Ey (f71 r7.2.2.2.2 r7.2.1 r7.2.2.1 r7.2.2.2.1 (2:Int) r7.1 r2.2.1 (0:Int)) fun r8=>
 some (r8.1,r8.2.1,r8.2.2.1,r8.2.2.2.1,r8.2.2.2.2)
 else
 bif (ByteArray.toList l.1==ByteArray.toList (ByteArray.mk #[99,111,110,118])) then
 Ey (f71 r2.2.2.2.2.2 r2.2.2.1 r2.2.2.2.1 r2.2.2.2.2.1 (12:Int) x_ r2.1 (1:Int)) fun r9=>
 some (r9.1,r9.2.1,r9.2.2.1,r9.2.2.2.1,r9.2.2.2.2)
 else
 bif (ByteArray.toList l.1==ByteArray.toList (ByteArray.mk #[112,111,111,108])) then
 Ey (f71 r2.2.2.2.2.2 r2.2.2.1 r2.2.2.2.1 r2.2.2.2.2.1 (13:Int) x_ (0:Int) l.2.1) fun r10=>
 some (r10.1,r10.2.1,r10.2.2.1,r10.2.2.2.1,r10.2.2.2.2)
 else
 bif (ByteArray.toList l.1==ByteArray.toList (ByteArray.mk #[98,101,110,100])) then
 Ey (f71 r2.2.2.2.2.2 r2.2.2.1 r2.2.2.2.1 r2.2.2.2.2.1 (11:Int) x_ (0:Int) l.2.1) fun r11=>
 some (r11.1,r11.2.1,r11.2.2.1,r11.2.2.2.1,r11.2.2.2.2)
 else
 Ey (f71 r2.2.2.2.2.2 r2.2.2.1 r2.2.2.2.1 r2.2.2.2.2.1 (2:Int) ahead x_ (0:Int)) fun r12=>
 some (r12.1,r12.2.1,r12.2.2.1,r12.2.2.2.1,r12.2.2.2.2)
def C44:Con:=⟨NL×Int×LI×LI×PTz12×LI×F9,PTz6,4,fun x=>[P0 0 0,.dat T3 x.2.2.2.2.1,.dat T6 x.2.2.2.2.2.1,.dat T1 x.2.2.2.2.2.2.1,.dat T1 x.2.2.2.2.2.2.2],fun x=>[(0,.cells [(.ptr 1 0),(.d T1 x.2.1),(.d T6 x.2.2.1),(.osl 3)]),(1,.cells [(.osl 2)]),(2,.arr 61 T8 x.1),(3,.arr 3 T1 x.2.2.2.1)],fun x=>f44 x.1 x.2.1 x.2.2.1 x.2.2.2.1 x.2.2.2.2.1 x.2.2.2.2.2.1 x.2.2.2.2.2.2.1 x.2.2.2.2.2.2.2,fun y=>[.dat T1 y.1],fun y=>[(0,.cells [(.ptr 1 0),(.d T1 y.2.1),(.d T6 y.2.2.1),(.osl 4)]),(1,.cells [(.osl 5)]),(4,.arr 3 T1 y.2.2.2.1),(5,.arr 61 T8 y.2.2.2.2)],6⟩
theorem V44 r_t_l r_e r_p r_leafs l in_ x_ ahead y (q:f44 r_t_l r_e r_p r_leafs l in_ x_ ahead=some y):VE Tryz.f44 4 C44 (r_t_l,r_e,r_p,r_leafs,l,in_,x_,ahead) y:=by
 unfold f44 at q
 refine OL (OL ?_)
 obtain ⟨r1,h,q⟩:=bE q
 refine OL (cA H64 ((l.1,l.2.1,l.2.2),in_) h rfl (R3 (K0 ?_)))
 obtain ⟨r2,h,q⟩:=bE q
 refine OL (cB H70 (r_t_l,r_e,r_p,r_leafs,r1) I4 false h rfl (AI rfl (AI NH (R2 (AJ (AI (R4 TV) (OL (OL (OL (cI q (fun q=>?_) (fun q=>?_)))))))))))
 ·obtain ⟨z4,hz4,q⟩:=bE q
  refine OQ ⟨[(0,⟨[(0,P0 0 0),(3,.dat T1 z4.1),(11,.dat T1 r2.1),(12,.dat T1 r2.2.1)],[(0,.cells [(.ptr 1 0),(.d T1 z4.2.1),(.d T6 z4.2.2.1),(.osl 4)]),(1,.cells [(.osl 5)]),(4,.arr 3 T1 z4.2.2.2.1),(5,.arr 61 T8 z4.2.2.2.2)],6⟩)],?_,?_⟩
  ·have q:=hz4
   clear hz4
   unfold f44_j1 at q
   refine OL (cI q (fun q=>?_) (fun q=>?_))
   ·obtain ⟨r5,h,q⟩:=bE q
    refine OL (cB H71 (r2.2.2.2.2.2,r2.2.2.1,r2.2.2.2.1,r2.2.2.2.2.1,(14:Int),x_,(0:Int),(0:Int)) (iuR [1,2,12,11]) false h rfl (R4 (AI NH (R2 (AJ (AI (R4 TV) ?_))))))
    cases sE q
    refine E4 [(0,some 0),(1,some 1),(4,some 10),(5,some 16)] (R4 (AJ (R4 TV)))
   cases sE q
   refine E4 [(0,some 0),(1,some 1),(4,some 10),(5,some 11)] (R4 (AJ (R4 TV)))
  refine AI (OL ?_) TV
  obtain ⟨r6,h,q⟩:=bE q
  refine OL (cB H71 (z4.2.2.2.2,z4.2.1,z4.2.2.1,z4.2.2.2.1,(4:Int),r2.1,z4.1,(0:Int)) (iuR [1,2,6,5]) false h rfl (R4 (AI NH (R2 (AJ (AI (R4 TV) ?_))))))
  obtain ⟨r7,h,q⟩:=bE q
  refine OL (cB H71 (r6.2.2.2.2,r6.2.1,r6.2.2.1,r6.2.2.2.1,(8:Int),r6.1,(0:Int),(1:Int)) (iuR [1,2,11,5]) false h rfl (R4 (AI NH (R2 (AJ (AI (R4 TV) (OL ?_)))))))
  obtain ⟨r8,h,q⟩:=bE q
  refine OL (cB H71 (r7.2.2.2.2,r7.2.1,r7.2.2.1,r7.2.2.2.1,(2:Int),r7.1,r2.2.1,(0:Int)) (iuR [1,2,16,5]) false h rfl (R4 (AI NH (R2 (AJ (AI (R4 TV) ?_))))))
  cases sE q
  refine AI rfl (E4 [(0,some 0),(1,some 1),(4,some 4),(5,some 20)] (R2 (AI TV (R4 TV))))
 refine OL (cI q (fun q=>?_) (fun q=>?_))
 ·refine OL ?_
  obtain ⟨r9,h,q⟩:=bE q
  refine OL (cB H71 (r2.2.2.2.2.2,r2.2.2.1,r2.2.2.2.1,r2.2.2.2.2.1,(12:Int),x_,r2.1,(1:Int)) (iuR [1,2,12,11]) false h rfl (R4 (AI NH (R2 (AJ (AI (R4 TV) ?_))))))
  cases sE q
  refine AI rfl (E4 [(0,some 0),(1,some 1),(4,some 10),(5,some 16)] (R2 (AI TV (R4 TV))))
 refine OL (cI q (fun q=>?_) (fun q=>?_))
 ·refine OL ?_
  obtain ⟨r10,h,q⟩:=bE q
  refine OL (cB H71 (r2.2.2.2.2.2,r2.2.2.1,r2.2.2.2.1,r2.2.2.2.2.1,(13:Int),x_,(0:Int),l.2.1) (iuR [1,2,12,11]) false h rfl (R4 (AI NH (R2 (AJ (AI (R4 TV) ?_))))))
  cases sE q
  refine AI rfl (E4 [(0,some 0),(1,some 1),(4,some 10),(5,some 16)] (R2 (AI TV (R4 TV))))
 refine OL (cI q (fun q=>?_) (fun q=>?_))
 ·refine OL ?_
  obtain ⟨r11,h,q⟩:=bE q
  refine OL (cB H71 (r2.2.2.2.2.2,r2.2.2.1,r2.2.2.2.1,r2.2.2.2.2.1,(11:Int),x_,(0:Int),l.2.1) (iuR [1,2,12,11]) false h rfl (R4 (AI NH (R2 (AJ (AI (R4 TV) ?_))))))
  cases sE q
  refine AI rfl (E4 [(0,some 0),(1,some 1),(4,some 10),(5,some 16)] (R2 (AI TV (R4 TV))))
 refine OL ?_
 obtain ⟨r12,h,q⟩:=bE q
 refine OL (cB H71 (r2.2.2.2.2.2,r2.2.2.1,r2.2.2.2.1,r2.2.2.2.2.1,(2:Int),ahead,x_,(0:Int)) (iuR [1,2,12,11]) false h rfl (R4 (AI NH (R2 (AJ (AI (R4 TV) ?_))))))
 cases sE q
 refine AI rfl (E4 [(0,some 0),(1,some 1),(4,some 10),(5,some 16)] (R2 (AI TV (R4 TV))))
theorem H44:HI C44 44:=hI Tryz.f44 rfl fun x=>V44 x.1 x.2.1 x.2.2.1 x.2.2.2.1 x.2.2.2.2.1 x.2.2.2.2.2.1 x.2.2.2.2.2.2.1 x.2.2.2.2.2.2.2
def f45 (t_l:NL) (n:Int):Option NL:=
 E9 (0≤(if (t_l.length:Int)<(if (0:Int)>n then (0:Int) else n) then (t_l.length:Int) else (if (0:Int)>n then (0:Int) else n))∧(if (t_l.length:Int)<(if (0:Int)>n then (0:Int) else n) then (t_l.length:Int) else (if (0:Int)>n then (0:Int) else n))≤t_l.length)<|
 some (List.take (Int.toNat (if (t_l.length:Int)<(if (0:Int)>n then (0:Int) else n) then (t_l.length:Int) else (if (0:Int)>n then (0:Int) else n))) t_l)
def C45:Con:=⟨NL×Int,NL,2,fun x=>[P0 0 0,.dat T1 x.2],fun x=>[(0,.cells [(.osl 1)]),(1,.arr 61 T8 x.1)],fun x=>f45 x.1 x.2,fun y=>[],fun y=>[(0,.cells [(.osl 2)]),(2,.arr 61 T8 y)],3⟩
theorem V45 t_l n y (q:f45 t_l n=some y):VE Tryz.f45 2 C45 (t_l,n) y:=by
 unfold f45 at q
 refine EI (tU 0 13 (.alt 13 (.take 14 (.take 15 (.alt 16 .done .done))) .done)) (EI [(16,[0])] (EI [] (AI rfl (AI TV (OQ (OQ (gI q (fun q=>?_))))))))
 refine AI TV (OL ?_)
 cases sE q
 refine AI rfl (E4 [(0,some 0),(2,some 2)] (AI rfl (AI TV (R2 TV))))
theorem H45:HI C45 45:=hI Tryz.f45 rfl fun x=>V45 x.1 x.2
def f21_j3 (n:Jd) (p_ x_:LI) (r1:Ki):Option Bool:=
 bif ((p_.length:Int) != r1.1) then
 some true
 else
 Ey (f42 n.1) fun r8=>
 some ((x_.length:Int) != r8)
def f21_j2 (n:Jd) (p_ x_:LI) (r1:Ki):Option (Sum Unit Unit):=
 Ey (f21_j3 n p_ x_ r1) fun z7=>
 bif z7 then
 some (Sum.inr ())
 else
 some (Sum.inl ())
def f21_l4 (n:Jd) (q18_7:PTz10) (go:(Int×Int×Int×Int×LI×NL×LI)→Option (Int×Int×LI×NL×LI)) (at_ ahead v62 c3_1:Int) (c3_2:LI) (l4:NL) (l5:LI):Option (Int×Int×LI×NL×LI):=
 bif (decide (v62<n.2.length)) then
 E9 (0≤v62∧v62<n.2.length)<|
 E9 (0≤v62∧v62<q18_7.2.length)<|
 Ey (f44 l4 c3_1 c3_2 l5 ((rd (Ty.z T3) n.2 v62).1,((rd (Ty.z T3) n.2 v62).2).1,((rd (Ty.z T3) n.2 v62).2).2) (rd (Ty.z T6) q18_7.2 v62) at_ ahead) fun q12_8=>
 go (q12_8.1,at_,(i64.wrap (v62+1)),q12_8.2.1,q12_8.2.2.1,q12_8.2.2.2.2,q12_8.2.2.2.1)
 else
 some (at_,c3_1,c3_2,l4,l5)
def f21 (t_l:NL) (n:Jd) (p_ x_:LI):Option PTz13:=
 Ey (f11 (n.1,n.2)) fun q18_7=>
 bif (q18_7.1 != 0) then
 some ((0:Int),q18_7.1,[],t_l)
 else
 Ey (f36 (n.1,n.2) q18_7.2) fun r1=>
 Ey (f21_j2 n p_ x_ r1) fun z5=>
 Fx z5 (fun z5a=>
 Ey (f25 t_l) fun r9=>
 Ey (f43 r9.2 (0:Int) p_ ([]) n.1 x_) fun r10=>
 Ey (Fq (fun go x=>f21_l4 n q18_7 go x.1 x.2.1 x.2.2.1 x.2.2.2.1 x.2.2.2.2.1 x.2.2.2.2.2.1 x.2.2.2.2.2.2) Fv (r10.1,(0:Int),(0:Int),r10.2.1,r10.2.2.1,r10.2.2.2.2,r10.2.2.2.1)) fun z11=>
 bif (z11.2.1 != 0) then
 Ey (f45 z11.2.2.2.1 r9.1) fun q12_9=>
 some ((0:Int),z11.2.1,[],q12_9)
 else
 some (z11.1,(0:Int),z11.2.2.2.2,z11.2.2.2.1)) (fun z5b=>
 some ((0:Int),(1:Int),[],t_l))
def C21:Con:=⟨NL×Jd×Fy,PTz13,2,fun x=>[P0 0 0,.dat T4 x.2.1,.dat T6 x.2.2.1,.dat T6 x.2.2.2],fun x=>[(0,.cells [(.osl 1)]),(1,.arr 61 T8 x.1)],fun x=>f21 x.1 x.2.1 x.2.2.1 x.2.2.2,fun y=>[.dat T1 y.1,O0 2,.dat T1 y.2.1],fun y=>[(0,.cells [(.osl 3)]),(2,.arr 3 T1 y.2.2.1),(3,.arr 61 T8 y.2.2.2)],4⟩
theorem V21 t_l n p_ x_ y (q:f21 t_l n p_ x_=some y):VE Tryz.f21 2 C21 (t_l,n,p_,x_) y:=by
 unfold f21 at q
 refine OL (OL ?_)
 obtain ⟨q18_7,h,q⟩:=bE q
 refine OL (cA H11 (n.1,n.2) h rfl (R2 (K0 (OL (OL (cI q (fun q=>?_) (fun q=>?_)))))))
 ·cases sE q
  refine OL (AI rfl (E4 [(0,some 0),(2,none),(3,some 1)] (R3 (AJ (R3 TV)))))
 refine OL ?_
 obtain ⟨r1,h,q⟩:=bE q
 refine OL (cD H36 ((n.1,n.2),q18_7.2) h rfl (R3 (AI (fun _=>rfl) (R2 (AI TV (AI TV ?_))))))
 obtain ⟨z5,hz5,q⟩:=bE q
 let h0:LH:=fun zz=>(0,.cells [(.osl 1)])::(1,.arr 61 T8 t_l)::zz
 let h1:LH:=fun zz=>h0 ((2,.cells [(.d T6 n.1),(.d T5 n.2)])::(3,.arr 23 T6 q18_7.2)::zz)
 refine OQ ⟨Sum.elim (fun z5a=>[(0,⟨[(0,P0 0 0),(2,.dat T6 p_),(3,.dat T6 x_),(5,P0 2 0),(11,O0 3)],h1 [],4⟩)]) (fun z5b=>[(1,⟨[(8,D0 0),(9,.raw false [N0]),(10,D0 1)],h0 [],2⟩)]) z5,?_,?_⟩
 ·have q:=hz5
  clear hz5
  unfold f21_j2 at q
  obtain ⟨z7,hz7,q⟩:=bE q
  refine OQ ⟨[(0,⟨[(0,P0 0 0),(2,.dat T6 p_),(3,.dat T6 x_),(5,P0 2 0),(11,O0 3),(47,.dat .bool z7)],h1 [],4⟩)],?_,?_⟩
  ·have q:=hz7
   clear hz7
   unfold f21_j3 at q
   refine cN q (fun q=>?_) (fun q=>?_)
   ·refine gY (gY (gY (gY ?_)))
    obtain ⟨r8,h,q⟩:=bE q
    refine OL (cA H42 n.1 h rfl (AI rfl (K0 (gY (cF ?_)))))
    cases sE q
    refine E4 I4 (R4 (AI (R3 TV) (R4 TV)))
   refine gN (gN (gN (gN (gN (cT ?_)))))
   cases sE q
   refine E4 I4 (R4 (AI (R3 TV) (R4 TV)))
  refine AI (cI q (fun q=>?_) (fun q=>?_)) TV
  ·cases sE q
   refine OL (E4 I2 (R3 (AJ (R2 TV))))
  cases sE q
  refine E4 I4 (R3 (AI (R3 TV) (R4 TV)))
 rcases z5 with z5a | z5b
 ·dsimp only [Fx] at q
  refine AI (OL ?_) TV
  obtain ⟨r9,h,q⟩:=bE q
  refine OL (cB H25 t_l I2 false h rfl (AI NH (R2 (AJ (AI (R2 TV) (OL ?_))))))
  obtain ⟨r10,h,q⟩:=bE q
  refine OL (AI H43.1 (callVn [(4,3,3,T1)] (virtI rfl rfl (virt0 (cQ C43 (r9.2,(0:Int),p_,[],n.1,x_) r10 (iuR [5,1,2,8]) false H43.2 h rfl rfl (R2 (AI NH (R2 (AJ (AI (R4 TV) (OL (OL ?_))))))))))))
  obtain ⟨z11,h,q⟩:=bE q
  refine lJ h (fun x=>⟨[(0,P0 0 0),(11,O0 2),(15,P0 3 0),(16,.dat T1 r9.1),(17,.dat T1 x.1),(18,.dat T1 x.2.1),(60,.dat T5 n.2),(61,.dat T1 (n.2.length:Int)),(62,.dat T1 x.2.2.1)],[(0,.cells [(.osl 4)]),(2,.arr 23 T6 q18_7.2),(3,.cells [(.ptr 0 0),(.d T1 x.2.2.2.1),(.d T6 x.2.2.2.2.1),(.osl 5)]),(4,.arr 61 T8 x.2.2.2.2.2.1),(5,.arr 3 T1 x.2.2.2.2.2.2)],6⟩) (fun z=>[(2,⟨[(0,P0 0 0),(15,P0 2 0),(16,.dat T1 r9.1),(17,.dat T1 z.1)],[(0,.cells [(.osl 3)]),(2,.cells [(.ptr 0 0),(.d T1 z.2.1),(.d T6 z.2.2.1),(.osl 4)]),(3,.arr 61 T8 z.2.2.2.1),(4,.arr 3 T1 z.2.2.2.2)],5⟩)]) (E4 [(0,some 0),(2,some 3),(3,some 4),(4,some 12),(5,some 7)] (R7 (AI (R3 TV) (R5 TV)))) (fun m=>F3 (fun at_=>F3 (fun ahead=>F3 (fun v62=>F3 (fun c3_1=>F3 (fun c3_2=>F3 (fun l4=>fun l5 z q=>?_))))))) ?_
  ·have q:f21_l4 n q18_7 _ at_ ahead v62 c3_1 c3_2 l4 l5=some z:=q
   unfold f21_l4 at q
   refine OL (OL (cI q (fun q=>?_) (fun q=>?_)))
   ·refine OL (OL (gI q (fun q=>?_)))
    refine OL (OL (EI (tU 0 8 (.alt 8 (.take 9 .done) .done)) (EI [] (EI [] (AI rfl (gI q (fun q=>?_)))))))
    refine AI TV ?_
    obtain ⟨q12_8,h,q⟩:=bE q
    refine OL (cB H44 (l4,c3_1,c3_2,l5,((rd (Ty.z T3) n.2 v62).1,((rd (Ty.z T3) n.2 v62).2).1,((rd (Ty.z T3) n.2 v62).2).2),(rd (Ty.z T6) q18_7.2 v62),at_,ahead) (iuR [4,1,5,6]) false h rfl (R5 (AI NH (R2 (AJ (AI (R4 TV) (EI (q12_8.1,at_,(i64.wrap (v62+1)),q12_8.2.1,q12_8.2.2.1,q12_8.2.2.2.2,q12_8.2.2.2.1) (AI q (E4 [(0,some 0),(2,some 2),(3,some 3),(4,some 12),(5,some 11)] (R7 (AI (R3 TV) (R5 TV))))))))))))
   cases sE q
   refine E4 [(0,some 0),(2,some 3),(3,some 4),(4,some 5)] (R3 (AI (R2 TV) (R4 TV)))
  refine AI (OL (OL (cI q (fun q=>?_) (fun q=>?_)))) TV
  ·refine OL ?_
   obtain ⟨q12_9,h,q⟩:=bE q
   refine OL (cB H45 (z11.2.2.2.1,r9.1) (iuR [1,4]) false h rfl (AI rfl (AI NH (R2 (AJ (AI (R2 TV) (OL (EI (tU 0 7 .done) (EI [] (EI [] (AI rfl ?_)))))))))))
   cases sE q
   refine AI rfl (E4 [(0,some 0),(2,none),(3,some 7)] (R3 (AJ (R3 TV))))
  refine OL (EI (tU 0 8 .done) (EI [] (EI [] (AI rfl ?_))))
  cases sE q
  refine AI rfl (E4 [(0,some 0),(2,some 4),(3,some 3)] (R3 (AJ (R3 TV))))
 dsimp only [Fx] at q
 refine AI ?_ TV
 cases sE q
 refine AI rfl (E4 [(0,some 0),(2,none),(3,some 1)] (R3 (AJ (R3 TV))))
theorem H21:HI C21 21:=hI Tryz.f21 rfl fun x=>V21 x.1 x.2.1 x.2.2.1 x.2.2.2
def f23 (t_l:NL) (n:Int):Option (Int×Int×Int×Int×Bool×LI×LI×NL):=
 Ey (f48 t_l n) fun r1=>
 bif (!r1.1) then
 some ((0:Int),(0:Int),(0:Int),(0:Int),false,[],[],r1.2)
 else
 E9 (0≤n∧n<r1.2.length)<|
 Ey (f49 ((((((rd (Ty.z T8) r1.2 n).2).2).2).2).1,(((((rd (Ty.z T8) r1.2 n).2).2).2).2).2)) fun r2=>
 some ((rd (Ty.z T8) r1.2 n).1,((rd (Ty.z T8) r1.2 n).2).1,(((rd (Ty.z T8) r1.2 n).2).2).1,((((rd (Ty.z T8) r1.2 n).2).2).2).1,true,r2.1,r2.2,r1.2)
def C23:Con:=⟨NL×Int,Int×Int×Int×Int×Bool×LI×LI×NL,2,fun x=>[P0 0 0,.dat T1 x.2],fun x=>[(0,.cells [(.osl 1)]),(1,.arr 61 T8 x.1)],fun x=>f23 x.1 x.2,fun y=>[.raw true [(.d T1 y.1),(.d T1 y.2.1),(.d T1 y.2.2.1),(.d T1 y.2.2.2.1),(.osl 2),(.osl 3)],.dat .bool y.2.2.2.2.1],fun y=>[(0,.cells [(.osl 1)]),(1,.arr 61 T8 y.2.2.2.2.2.2.2),(2,.arr 3 T1 y.2.2.2.2.2.1),(3,.arr 57 T1 y.2.2.2.2.2.2.1)],4⟩
theorem V23 t_l n y (q:f23 t_l n=some y):VE Tryz.f23 2 C23 (t_l,n) y:=by
 unfold f23 at q
 refine OL (OL (OL ?_))
 obtain ⟨r1,h,q⟩:=bE q
 refine OL (cB H48 (t_l,n) I2 false h rfl (AI rfl (AI NH (R2 (AJ (AI (R2 TV) (cI q (fun q=>?_) (fun q=>?_))))))))
 ·refine OL (OL ?_)
  cases sE q
  refine AI rfl (E4 (iuR [1,2,0,0]) (R2 (AJ (R4 TV))))
 refine OL (gI q (fun q=>?_))
 refine OL (OL ?_)
 obtain ⟨r2,h,q⟩:=bE q
 refine OL (cA H49 ((((((rd (Ty.z T8) r1.2 n).2).2).2).2).1,(((((rd (Ty.z T8) r1.2 n).2).2).2).2).2) h rfl (R2 (K0 (OL (OL (OL ?_))))))
 cases sE q
 refine AI rfl (E4 (iuR [1,2,7,8]) (R2 (AJ (R4 TV))))
theorem H23:HI C23 23:=hI Tryz.f23 rfl fun x=>V23 x.1 x.2
def f27 (t_l:NL) (n:Int):Option (Bool×LI×LI×NL):=
 Ey (f23 t_l n) fun r1=>
 some (r1.2.2.2.2.1,r1.2.2.2.2.2.1,r1.2.2.2.2.2.2.1,r1.2.2.2.2.2.2.2)
def C27:Con:=⟨NL×Int,Bool×LI×LI×NL,2,fun x=>[P0 0 0,.dat T1 x.2],fun x=>[(0,.cells [(.osl 1)]),(1,.arr 61 T8 x.1)],fun x=>f27 x.1 x.2,fun y=>[.raw true [(.osl 2),(.osl 3)],.dat .bool y.1],fun y=>[(0,.cells [(.osl 1)]),(1,.arr 61 T8 y.2.2.2),(2,.arr 3 T1 y.2.1),(3,.arr 57 T1 y.2.2.1)],4⟩
theorem V27 t_l n y (q:f27 t_l n=some y):VE Tryz.f27 2 C27 (t_l,n) y:=by
 unfold f27 at q
 refine OL (OL ?_)
 obtain ⟨r1,h,q⟩:=bE q
 refine OL (cB H23 (t_l,n) I2 false h rfl (AI rfl (AI NH (R2 (AJ (AI (R2 TV) (OL (OL (OL ?_)))))))))
 cases sE q
 refine AI rfl (E4 (iuR [1,2,6,7]) (R2 (AJ (R4 TV))))
theorem H27:HI C27 27:=hI Tryz.f27 rfl fun x=>V27 x.1 x.2
def f66 (i:Int):Option ByteArray:=
 itoaF i
def C66:Con:=⟨Int,ByteArray,0,fun x=>[.dat T1 x],NX,fun x=>f66 x,fun y=>[.dat .str y],NX,0⟩
theorem C66_holds:C66.Holds Tryz.prog 66:=itoa_holds Tryz.lays171
theorem f66_in:InP 66:=inP (by kernel_rfl)
def f37_l1 (l:LI) (go:(ByteArray×Int)→Option ByteArray) (s:ByteArray) (v8:Int):Option ByteArray:=
 bif (decide (v8<l.length)) then
 E9 (0≤v8∧v8<l.length)<|
 Ey (f66 (rd 0 l v8)) fun r4=>
 E9 (((ByteArray.size (ByteArray.mk #[32])+ByteArray.size r4:Nat):Int)≤140737488355328)<|
 E9 (((ByteArray.size s+ByteArray.size ((ByteArray.mk #[32])++r4):Nat):Int)≤140737488355328)<|
 go ((s++((ByteArray.mk #[32])++r4)),(i64.wrap (v8+1)))
 else
 some s
def f37 (l:LI):Option ByteArray:=
 Ey (Fq (fun go x=>f37_l1 l go x.1 x.2) Fv ((ByteArray.mk #[]),(0:Int))) fun z3=>
 some z3
def C37:Con:=⟨LI,ByteArray,0,fun x=>[.dat T6 x],NX,fun x=>f37 x,fun y=>[.dat .str y],NX,0⟩
theorem V37 l y (q:f37 l=some y):VC Tryz.f37 C37 l y:=by
 unfold f37 at q
 refine OL (OL (OL (OL ?_)))
 obtain ⟨z3,h,q⟩:=bE q
 refine lJ h (fun x=>⟨[(3,.dat .str x.1),(6,.dat T6 l),(7,.dat T1 (l.length:Int)),(8,.dat T1 x.2)],[],0⟩) (fun z=>[(2,⟨[(3,.dat .str z)],[],0⟩)]) (E4 [] (R5 (AI TV TV))) (fun m=>F3 (fun s=>fun v8 z q=>?_)) ?_
 ·have q:f37_l1 l _ s v8=some z:=q
  unfold f37_l1 at q
  refine OL (OL (cI q (fun q=>?_) (fun q=>?_)))
  ·refine OL (OL (gI q (fun q=>?_)))
   obtain ⟨r4,h,q⟩:=bE q
   refine OL (AI f66_in (cV (cQ C66 (rd (0:Int) l v8) r4 [] false C66_holds h rfl rfl (AI rfl (K0 (gI q (fun q=>?_)))))))
   refine gI q (fun q=>?_)
   refine EI ((s++((ByteArray.mk #[32])++r4)),(i64.wrap (v8+1))) (AI q (E4 [] (R5 (AI TV TV))))
  cases sE q
  refine E4 [] (R2 (AI TV TV))
 refine AI (OL ?_) TV
 cases sE q
 refine AI rfl (E4 [] (R2 (AI TV TV)))
theorem H37:HI C37 37:=hI Tryz.f37 rfl fun x=>V37 x
def f14_l1 (n:Jd) (go:(ByteArray×Int)→Option ByteArray) (s:ByteArray) (v22:Int):Option ByteArray:=
 bif (decide (v22<n.2.length)) then
 E9 (0≤v22∧v22<n.2.length)<|
 E9 (((ByteArray.size (ByteArray.mk #[32])+ByteArray.size ((rd (Ty.z T3) n.2 v22).1):Nat):Int)≤140737488355328)<|
 Ey (f38 ((rd (Ty.z T3) n.2 v22).1)) fun q8_11=>
 E9 (0≤q8_11∧q8_11≤(List.length ([((rd (Ty.z T3) n.2 v22).2).1,((rd (Ty.z T3) n.2 v22).2).2]):Int))<|
 Ey (f37 (List.take (Int.toNat q8_11) ([((rd (Ty.z T3) n.2 v22).2).1,((rd (Ty.z T3) n.2 v22).2).2]))) fun q8_13=>
 E9 (((ByteArray.size ((ByteArray.mk #[32])++((rd (Ty.z T3) n.2 v22).1))+ByteArray.size q8_13:Nat):Int)≤140737488355328)<|
 E9 (((ByteArray.size s+ByteArray.size (((ByteArray.mk #[32])++((rd (Ty.z T3) n.2 v22).1))++q8_13):Nat):Int)≤140737488355328)<|
 go ((s++(((ByteArray.mk #[32])++((rd (Ty.z T3) n.2 v22).1))++q8_13)),(i64.wrap (v22+1)))
 else
 some s
def f14 (n:Jd):Option ByteArray:=
 Ey (f11 (n.1,n.2)) fun q8_16=>
 bif (q8_16.1 != 0) then
 some (ByteArray.mk #[])
 else
 Ey (f37 n.1) fun r1=>
 E9 (((ByteArray.size (ByteArray.mk #[105,110])+ByteArray.size r1:Nat):Int)≤140737488355328)<|
 Ey (Fq (fun go x=>f14_l1 n go x.1 x.2) Fv (((ByteArray.mk #[105,110])++r1),(0:Int))) fun z2=>
 some z2
def C14:Con:=⟨Jd,ByteArray,0,fun x=>[.dat T4 x],NX,fun x=>f14 x,fun y=>[.dat .str y],NX,0⟩
theorem V14 n y (q:f14 n=some y):VC Tryz.f14 C14 n y:=by
 unfold f14 at q
 refine OL (OL (OL ?_))
 obtain ⟨q8_16,h,q⟩:=bE q
 refine OL (cA H11 (n.1,n.2) h rfl (R2 (K0 (OL (cI q (fun q=>?_) (fun q=>?_))))))
 ·cases sE q
  refine OL (AI rfl (E4 [] (R2 (AI TV TV))))
 refine OL ?_
 obtain ⟨r1,h,q⟩:=bE q
 refine OL (cA H37 n.1 h rfl (AI rfl (K0 (gI q (fun q=>?_)))))
 refine OL (OL ?_)
 obtain ⟨z2,h,q⟩:=bE q
 refine lJ h (fun x=>⟨[(5,.dat .str x.1),(20,.dat T5 n.2),(21,.dat T1 (n.2.length:Int)),(22,.dat T1 x.2)],[],0⟩) (fun z=>[(2,⟨[(5,.dat .str z)],[],0⟩)]) (E4 [] (R5 (AI TV TV))) (fun m=>F3 (fun s=>fun v22 z q=>?_)) ?_
 ·have q:f14_l1 n _ s v22=some z:=q
  unfold f14_l1 at q
  refine OL (OL (cI q (fun q=>?_) (fun q=>?_)))
  ·refine OL (OL (gI q (fun q=>?_)))
   refine OL ?_
   obtain ⟨g8_0,q⟩:=gE q
   obtain ⟨q8_11,hq8_11,q⟩:=bE q
   obtain ⟨g8_2,q⟩:=gE q
   obtain ⟨q8_13,hq8_13,q⟩:=bE q
   obtain ⟨g8_4,q⟩:=gE q
   obtain ⟨g8_5,q⟩:=gE q
   refine EI (tU 0 8 (.take 9 (.take 10 (.alt 8 (.alt 11 (.alt 12 (.alt 13 (tU 14 3 .done) .done) .done) .done) (.alt 11 (.alt 8 (.alt 12 (.alt 13 (tU 14 3 .done) .done) .done) .done) .done))))) (EI [] (EI [] (AI rfl (AI g8_0 (AI (AI TV ?_) ?_)))))
   ·refine OL (AI H38.1 (cV (cQ C38 (rd (Ty.z T3) n.2 v22).1 q8_11 [] false H38.2 hq8_11 rfl rfl (AI rfl (K0 (AI TV (OL (AI TV (OL (AI g8_2 (AI TV (OL (cA H37 (List.take (Int.toNat q8_11) ([((rd (Ty.z T3) n.2 v22).2).1,((rd (Ty.z T3) n.2 v22).2).2])) hq8_13 rfl (AI rfl (K0 (AI g8_4 (AI g8_5 (EI ((s++(((ByteArray.mk #[32])++((rd (Ty.z T3) n.2 v22).1))++q8_13)),(i64.wrap (v22+1))) (AI q (E4 [] (R5 (AI TV TV))))))))))))))))))))))
   refine OL (AI TV (OL (AI H38.1 (cV (cQ C38 (rd (Ty.z T3) n.2 v22).1 q8_11 [] false H38.2 hq8_11 rfl rfl (AI rfl (K0 (AI TV (OL (AI g8_2 (AI TV (OL (cA H37 (List.take (Int.toNat q8_11) ([((rd (Ty.z T3) n.2 v22).2).1,((rd (Ty.z T3) n.2 v22).2).2])) hq8_13 rfl (AI rfl (K0 (AI g8_4 (AI g8_5 (EI ((s++(((ByteArray.mk #[32])++((rd (Ty.z T3) n.2 v22).1))++q8_13)),(i64.wrap (v22+1))) (AI q (E4 [] (R5 (AI TV TV))))))))))))))))))))))
  cases sE q
  refine E4 [] (R2 (AI TV TV))
 refine AI (OL ?_) TV
 cases sE q
 refine AI rfl (E4 [] (R2 (AI TV TV)))
theorem H14:HI C14 14:=hI Tryz.f14 rfl fun x=>V14 x
def f9:Option Bool:=
 Ey (f10 (ByteArray.mk #[105,110,32,50,32,100,101,110,115,101,32,49])) fun r1=>
 Ey (f12 (r1.1.1,r1.1.2)) fun r2=>
 Ey (f20) fun r3=>
 Ey (f21 ([]) (r1.1.1,r1.1.2) ([(4294967296:Int),(8589934592:Int),(5:Int)]) ([(3:Int),(4:Int)])) fun r4=>
 Ey (f27 r4.2.2.2 r4.1) fun r5=>
 bif (r1.2==0) then
 bif (r2.2==0) then
 bif (r2.1==3) then
 bif (r4.2.1==0) then
 bif ((r4.2.2.1.length:Int)==2) then
 bif r5.1 then
 bif ((r5.2.2.1.length:Int)==1) then
 E9 (0≤(0:Int)∧0<(r5.2.2.1.length:Int))<|
 bif ((rd 0 r5.2.2.1 0)==16) then
 Ey (f14 (r1.1.1,r1.1.2)) fun r6=>
 some (ByteArray.toList r6==ByteArray.toList (ByteArray.mk #[105,110,32,50,32,100,101,110,115,101,32,49]))
 else
 some false
 else
 some false
 else
 some false
 else
 some false
 else
 some false
 else
 some false
 else
 some false
 else
 some false
def C9:Con:=⟨Unit,Bool,0,fun x=>[],NX,fun x=>f9,fun y=>[.dat .bool y],NX,0⟩
theorem V9 y (q:f9=some y):VC Tryz.f9 C9 () y:=by
 unfold f9 at q
 refine OL (OL ?_)
 obtain ⟨r1,h,q⟩:=bE q
 refine OL (cA H10 (ByteArray.mk #[105,110,32,50,32,100,101,110,115,101,32,49]) h rfl (AI rfl (K0 (OL (OL ?_)))))
 obtain ⟨r2,h,q⟩:=bE q
 refine OL (cA H12 (r1.1.1,r1.1.2) h rfl (R2 (K0 (OL ?_))))
 obtain ⟨r3,h,q⟩:=bE q
 refine OL (cA H20 () h rfl (K0 (OL (OL (OL ?_)))))
 obtain ⟨r4,h,q⟩:=bE q
 refine OL (cB H21 ([],(r1.1.1,r1.1.2),[(4294967296:Int),(8589934592:Int),(5:Int)],[(3:Int),(4:Int)]) (iuR [2,3]) false h rfl (R4 (AI NH (R2 (AJ (AI (R2 TV) (OL ?_)))))))
 obtain ⟨r5,h,q⟩:=bE q
 refine OL (cB H27 (r4.2.2.2,r4.1) (iuR [2,9]) false h rfl (AI rfl (AI NH (R2 (AJ (AI (R2 TV) (OL (OL (cI q (fun q=>?_) (fun q=>?_))))))))))
 ·refine gX (cT (cI q (fun q=>?_) (fun q=>?_)))
  ·refine gX (cT (cI q (fun q=>?_) (fun q=>?_)))
   ·refine gX (cT (cI q (fun q=>?_) (fun q=>?_)))
    ·refine gX (gX (cT (cI q (fun q=>?_) (fun q=>?_))))
     ·refine cT (cI q (fun q=>?_) (fun q=>?_))
      ·refine gX (gX (gX (cT (cI q (fun q=>?_) (fun q=>?_)))))
       ·refine gX (gX (gI q (fun q=>?_)))
        refine gX (gX (cT (cI q (fun q=>?_) (fun q=>?_))))
        ·refine gX ?_
         obtain ⟨r6,h,q⟩:=bE q
         refine OL (cA H14 (r1.1.1,r1.1.2) h rfl (R2 (K0 (gX (cT ?_)))))
         cases sE q
         refine AI rfl (E4 [] (R2 (AI TV TV)))
        refine gM (gM (cF ?_))
        cases sE q
        refine AI rfl (E4 [] (R2 (AI TV TV)))
       refine gM (gM (gM (gM (cF (gM (gM (gM (cF ?_))))))))
       cases sE q
       refine AI rfl (E4 [] (R2 (AI TV TV)))
      refine gM (gM (gM (cF (gM (gM (gM (gM (gM (cF (gM (gM (gM (cF ?_)))))))))))))
      cases sE q
      refine AI rfl (E4 [] (R2 (AI TV TV)))
     refine cF (gM (gM (gM (gM (cF (gM (gM (gM (gM (gM (cF (gM (gM (gM (cF ?_)))))))))))))))
     cases sE q
     refine AI rfl (E4 [] (R2 (AI TV TV)))
    refine gM (gM (cF (gM (cF (gM (gM (gM (gM (cF (gM (gM (gM (gM (gM (cF (gM (gM (gM (cF ?_)))))))))))))))))))
    cases sE q
    refine AI rfl (E4 [] (R2 (AI TV TV)))
   refine gM (cF (gM (gM (gM (cF (gM (cF (gM (gM (gM (gM (cF (gM (gM (gM (gM (gM (cF (gM (gM (gM (cF ?_))))))))))))))))))))))
   cases sE q
   refine AI rfl (E4 [] (R2 (AI TV TV)))
  refine gM (cF (gM (gM (cF (gM (gM (gM (cF (gM (cF (gM (gM (gM (gM (cF (gM (gM (gM (gM (gM (cF (gM (gM (gM (cF ?_)))))))))))))))))))))))))
  cases sE q
  refine AI rfl (E4 [] (R2 (AI TV TV)))
 refine gM (cF (gM (gM (cF (gM (gM (cF (gM (gM (gM (cF (gM (cF (gM (gM (gM (gM (cF (gM (gM (gM (gM (gM (cF (gM (gM (gM (cF ?_))))))))))))))))))))))))))))
 cases sE q
 refine AI rfl (E4 [] (R2 (AI TV TV)))
theorem H9:HI C9 9:=hI Tryz.f9 rfl fun x=>V9
def f13_l1 (a b:LI) (go:Int→Option (Sum Unit Unit)) (i:Int):Option (Sum Unit Unit):=
 bif (decide (i<a.length)) then
 E9 (0≤i∧i<a.length)<|
 E9 (0≤i∧i<b.length)<|
 bif ((rd 0 a i) != (rd 0 b i)) then
 some (Sum.inl ())
 else
 go (i64.wrap (i+1))
 else
 some (Sum.inr ())
def f13 (a b:LI):Option Bool:=
 bif ((a.length:Int) != b.length) then
 some false
 else
 Ey (Fq (fun go x=>f13_l1 a b go x) Fv (0:Int)) fun z1=>
 Fx z1 (fun z1a=>
 some false) (fun z1b=>
 some true)
def C13:Con:=⟨Fy,Bool,0,fun x=>[.dat T6 x.1,.dat T6 x.2],NX,fun x=>f13 x.1 x.2,fun y=>[.dat .bool y],NX,0⟩
theorem V13 a b y (q:f13 a b=some y):VC Tryz.f13 C13 (a,b) y:=by
 unfold f13 at q
 refine OL (OL (OL (cI q (fun q=>?_) (fun q=>?_))))
 ·cases sE q
  refine OL (AI rfl (E4 [] (R2 (AI TV TV))))
 refine OL (OL ?_)
 obtain ⟨z1,h,q⟩:=bE q
 refine lJ h (fun x=>⟨[(0,.dat T6 a),(1,.dat T6 b),(5,.dat T1 x)],[],0⟩) (fun z=>Sum.elim (fun za=>[(1,⟨[(4,.dat .bool false)],[],0⟩)]) (fun zb=>[(2,⟨[],[],0⟩)]) z) (E4 [] (R4 (AI TV TV))) (fun m=>fun i z q=>?_) ?_
 ·have q:f13_l1 a b _ i=some z:=q
  unfold f13_l1 at q
  refine OL (OL (cI q (fun q=>?_) (fun q=>?_)))
  ·refine OL (OL (EI (tU 0 9 .done) (EI [] (EI [] (AI rfl (gI q (fun q=>?_)))))))
   refine gI q (fun q=>?_)
   refine cI q (fun q=>?_) (fun q=>?_)
   ·cases sE q
    refine OL (E4 [] (R2 (AI TV TV)))
   refine EI (i64.wrap (i+1)) (AI q (E4 [] (R4 (AI TV TV))))
  cases sE q
  refine E4 [] (AI rfl (AI TV TV))
 rcases z1 with z1a | z1b
 ·dsimp only [Fx] at q
  refine AI ?_ TV
  cases sE q
  refine AI rfl (E4 [] (R2 (AI TV TV)))
 dsimp only [Fx] at q
 refine AI (OL ?_) TV
 cases sE q
 refine AI rfl (E4 [] (R2 (AI TV TV)))
theorem H13:HI C13 13:=hI Tryz.f13 rfl fun x=>V13 x.1 x.2
def f16_l1 (n:Jd) (go:(Int×LTz0)→Option LTz0) (i:Int) (l3:LTz0):Option LTz0:=
 bif (decide (i<n.2.length)) then
 E9 (0≤i∧i<n.2.length)<|
 E9 (0≤i∧i<n.2.length)<|
 E9 (0≤i∧i<n.2.length)<|
 E9 ((l3.length+List.length ([((rd (Ty.z T3) n.2 i).1,((rd (Ty.z T3) n.2 i).2).1,((rd (Ty.z T3) n.2 i).2).2)]))*32≤140737488355328)<|
 go ((i64.wrap (i+1)),(l3++([((rd (Ty.z T3) n.2 i).1,((rd (Ty.z T3) n.2 i).2).1,((rd (Ty.z T3) n.2 i).2).2)])))
 else
 some l3
def f16 (n:Jd):Option Jd:=
 Ey (Fq (fun go x=>f16_l1 n go x.1 x.2) Fv ((0:Int),[])) fun z1=>
 some (n.1,z1)
def C16:Con:=⟨Jd,Jd,0,fun x=>[.dat T4 x],NX,fun x=>f16 x,fun y=>[.raw true [(.d T6 y.1),(.osl 0)]],fun y=>[(0,.arr 91 T3 y.2)],1⟩
theorem V16 n y (q:f16 n=some y):VC Tryz.f16 C16 n y:=by
 unfold f16 at q
 refine OL (OL (OL (OL (OL ?_))))
 obtain ⟨z1,h,q⟩:=bE q
 refine lJ h (fun x=>⟨[(1,P0 0 0),(2,P0 1 0),(3,P0 2 0),(4,.dat T1 x.1)],[(0,.cells [(.d T6 n.1),(.d T5 n.2)]),(1,.cells [N0,N0]),(2,.cells [(.d T6 n.1),(.osl 3)]),(3,.arr 91 T3 x.2)],4⟩) (fun z=>[(2,⟨[(2,P0 0 0),(3,P0 1 0)],[(0,.cells [N0,N0]),(1,.cells [(.d T6 n.1),(.osl 2)]),(2,.arr 91 T3 z)],3⟩)]) (E4 (iuR [1,2,3,0]) (R2 (AI (R3 TV) (R4 TV)))) (fun m=>F3 (fun i=>fun l3 z q=>?_)) ?_
 ·have q:f16_l1 n _ i l3=some z:=q
  unfold f16_l1 at q
  refine OL (OL (cI q (fun q=>?_) (fun q=>?_)))
  ·refine OL (EI (tU 0 21 (.alt 21 (.alt 22 (.take 23 (.alt 24 .done .done)) .done) .done)) (EI [(24,[2])] (EI [] (AI rfl (gI q (fun q=>?_))))))
   refine gI q (fun q=>?_)
   refine gI q (fun q=>?_)
   refine AI TV (OL (AI TV (OL (gI q (fun q=>?_)))))
   refine AI TV (OL (EI ((i64.wrap (i+1)),(l3++([((rd (Ty.z T3) n.2 i).1,((rd (Ty.z T3) n.2 i).2).1,((rd (Ty.z T3) n.2 i).2).2)]))) (AI q (E4 (iuR [1,2,3,6]) (R2 (AI (R3 TV) (R4 TV)))))))
  cases sE q
  refine E4 (iuR [2,3,4]) (AI rfl (AI (R2 TV) (R3 TV)))
 refine AI (OL (OL ?_)) TV
 cases sE q
 refine AI rfl (E4 (iuR [3]) (AI rfl (AJ (AI rfl TV))))
theorem H16:HI C16 16:=hI Tryz.f16 rfl fun x=>V16 x
def f67 (v lo hi:Int):Option Bool:=
 bif (decide (v≥lo)) then
 some (decide (v≤hi))
 else
 some false
def C67:Con:=⟨Int×F9,Bool,0,fun x=>[.dat T1 x.1,.dat T1 x.2.1,.dat T1 x.2.2],NX,fun x=>f67 x.1 x.2.1 x.2.2,fun y=>[.dat .bool y],NX,0⟩
theorem V67 v lo hi y (q:f67 v lo hi=some y):VC Tryz.f67 C67 (v,lo,hi) y:=by
 unfold f67 at q
 refine OL (OL (cI q (fun q=>?_) (fun q=>?_)))
 ·refine gX (gX (cT ?_))
  cases sE q
  refine AI rfl (E4 [] (R2 (AI TV TV)))
 refine gM (gM (cF ?_))
 cases sE q
 refine AI rfl (E4 [] (R2 (AI TV TV)))
theorem H67:HI C67 67:=hI Tryz.f67 rfl fun x=>V67 x.1 x.2.1 x.2.2
def f39_j1 (n:Jd):Option (Sum Unit Unit):=
 bif ((n.1.length:Int)==1) then
 E9 (0≤(0:Int)∧0<(n.1.length:Int))<|
 Ey (f67 (rd 0 n.1 0) (1:Int) (1024:Int)) fun r5=>
 bif (!r5) then
 some (Sum.inr ())
 else
 some (Sum.inl ())
 else
 bif ((n.1.length:Int)==2) then
 E9 (0≤(0:Int)∧0<(n.1.length:Int))<|
 Ey (f67 (rd 0 n.1 0) (1:Int) (64:Int)) fun r6=>
 bif (!r6) then
 some (Sum.inr ())
 else
 E9 (0≤(1:Int)∧1<(n.1.length:Int))<|
 Ey (f67 (rd 0 n.1 1) (1:Int) (64:Int)) fun r7=>
 bif (!r7) then
 some (Sum.inr ())
 else
 some (Sum.inl ())
 else
 some (Sum.inr ())
def f39_j5 (n:Jd) (i:Int):Option Bool:=
 bif (ByteArray.toList ((rd (Ty.z T3) n.2 i).1)==ByteArray.toList (ByteArray.mk #[100,101,110,115,101])) then
 Ey (f67 (((rd (Ty.z T3) n.2 i).2).1) (1:Int) (256:Int)) fun r37=>
 bif r37 then
 some ((((rd (Ty.z T3) n.2 i).2).2)==0)
 else
 some false
 else
 bif (ByteArray.toList ((rd (Ty.z T3) n.2 i).1)==ByteArray.toList (ByteArray.mk #[99,111,110,118])) then
 Ey (f67 (((rd (Ty.z T3) n.2 i).2).1) (1:Int) (16:Int)) fun r38=>
 bif r38 then
 Ey (f67 (((rd (Ty.z T3) n.2 i).2).2) (1:Int) (16:Int)) fun r39=>
 some r39
 else
 some false
 else
 bif (ByteArray.toList ((rd (Ty.z T3) n.2 i).1)==ByteArray.toList (ByteArray.mk #[112,111,111,108])) then
 Ey (f67 (((rd (Ty.z T3) n.2 i).2).1) (1:Int) (16:Int)) fun r40=>
 bif r40 then
 some ((((rd (Ty.z T3) n.2 i).2).2)==0)
 else
 some false
 else
 bif (ByteArray.toList ((rd (Ty.z T3) n.2 i).1)==ByteArray.toList (ByteArray.mk #[98,101,110,100])) then
 Ey (f67 (((rd (Ty.z T3) n.2 i).2).1) (1:Int) (5:Int)) fun r41=>
 bif r41 then
 some ((((rd (Ty.z T3) n.2 i).2).2)==0)
 else
 some false
 else
 bif (ByteArray.toList ((rd (Ty.z T3) n.2 i).1)==ByteArray.toList (ByteArray.mk #[115,107,105,112])) then
 bif ((((rd (Ty.z T3) n.2 i).2).1)==0) then
 some ((((rd (Ty.z T3) n.2 i).2).2)==0)
 else
 some false
 else
 some false
def f39_l4 (n:Jd) (go:Int→Option (Sum Unit Unit)) (i:Int):Option (Sum Unit Unit):=
 bif (decide (i<n.2.length)) then
 E9 (0≤i∧i<n.2.length)<|
 Ey (f39_j5 n i) fun z36=>
 bif (!z36) then
 some (Sum.inl ())
 else
 go (i64.wrap (i+1))
 else
 some (Sum.inr ())
def f39 (n:Jd):Option Bool:=
 Ey (f39_j1 n) fun z4=>
 Fx z4 (fun z4a=>
 Ey (Fq (fun go x=>f39_l4 n go x) Fv (0:Int)) fun z30=>
 Fx z30 (fun z30a=>
 some false) (fun z30b=>
 some true)) (fun z4b=>
 some false)
def C39:Con:=⟨Jd,Bool,0,fun x=>[.dat T4 x],NX,fun x=>f39 x,fun y=>[.dat .bool y],NX,0⟩
theorem V39 n y (q:f39 n=some y):VC Tryz.f39 C39 n y:=by
 unfold f39 at q
 refine OL ?_
 obtain ⟨z4,hz4,q⟩:=bE q
 let h0:LH:=fun zz=>(0,.cells [(.d T6 n.1),(.d T5 n.2)])::zz
 refine OQ ⟨Sum.elim (fun z4a=>[(0,⟨[(1,P0 0 0)],h0 [],1⟩)]) (fun z4b=>[(1,⟨[(2,.dat .bool false)],[],0⟩)]) z4,?_,?_⟩
 ·have q:=hz4
  clear hz4
  unfold f39_j1 at q
  refine OL (OL (cI q (fun q=>?_) (fun q=>?_)))
  ·refine OL (gI q (fun q=>?_))
   obtain ⟨r5,h,q⟩:=bE q
   refine OL (cA H67 ((rd 0 n.1 0),(1:Int),(1024:Int)) h rfl (R3 (K0 (cI q (fun q=>?_) (fun q=>?_)))))
   ·cases sE q
    refine OL (E4 [] (R2 (AI TV TV)))
   cases sE q
   refine E4 (iuR [1]) (AI rfl (AJ (AI rfl TV)))
  refine OL (cI q (fun q=>?_) (fun q=>?_))
  ·refine OL (gI q (fun q=>?_))
   obtain ⟨r6,h,q⟩:=bE q
   refine OL (cA H67 ((rd 0 n.1 0),(1:Int),(64:Int)) h rfl (R3 (K0 (cN q (fun q=>?_) (fun q=>?_)))))
   ·refine gY (gY (gI q (fun q=>?_)))
    refine gY (gY ?_)
    obtain ⟨r7,h,q⟩:=bE q
    refine OL (cA H67 ((rd 0 n.1 1),(1:Int),(64:Int)) h rfl (R3 (K0 (gY (cF (cI q (fun q=>?_) (fun q=>?_)))))))
    ·cases sE q
     refine OL (E4 [] (R2 (AI TV TV)))
    cases sE q
    refine E4 (iuR [1]) (AI rfl (AJ (AI rfl TV)))
   refine gN (gN (gN (gN (gN (cT (cT (OL ?_)))))))
   cases sE q
   refine E4 [] (R2 (AI TV TV))
  cases sE q
  refine OL (E4 [] (R2 (AI TV TV)))
 rcases z4 with z4a | z4b
 ·dsimp only [Fx] at q
  refine AI (OL (OL ?_)) TV
  obtain ⟨z30,h,q⟩:=bE q
  refine lJ h (fun x=>⟨[(1,P0 0 0),(3,.dat T1 x)],h0 [],1⟩) (fun z=>Sum.elim (fun za=>[(1,⟨[(2,.dat .bool false)],[],0⟩)]) (fun zb=>[(3,⟨[],[],0⟩)]) z) (E4 (iuR [1]) (R2 (AJ (AI rfl TV)))) (fun m=>fun i z q=>?_) ?_
  ·have q:f39_l4 n _ i=some z:=q
   unfold f39_l4 at q
   refine OL (OL (cI q (fun q=>?_) (fun q=>?_)))
   ·refine OL (OL (gI q (fun q=>?_)))
    refine OL (OL ?_)
    obtain ⟨z36,hz36,q⟩:=bE q
    refine OQ ⟨[(0,⟨[(1,P0 0 0),(3,.dat T1 i),(5,.dat .bool z36)],h0 [],1⟩)],?_,?_⟩
    ·have q:=hz36
     clear hz36
     unfold f39_j5 at q
     refine OL (OL (cI q (fun q=>?_) (fun q=>?_)))
     ·obtain ⟨r37,h,q⟩:=bE q
      refine OL (cA H67 (((rd (Ty.z T3) n.2 i).2).1,(1:Int),(256:Int)) h rfl (R3 (K0 (cI q (fun q=>?_) (fun q=>?_)))))
      ·refine gX (gX (cT ?_))
       cases sE q
       refine E4 (iuR [1]) (R3 (AJ (AI rfl TV)))
      refine gM (gM (cF ?_))
      cases sE q
      refine E4 (iuR [1]) (R3 (AJ (AI rfl TV)))
     refine OL (cI q (fun q=>?_) (fun q=>?_))
     ·obtain ⟨r38,h,q⟩:=bE q
      refine OL (cA H67 (((rd (Ty.z T3) n.2 i).2).1,(1:Int),(16:Int)) h rfl (R3 (K0 (cI q (fun q=>?_) (fun q=>?_)))))
      ·refine gX (gX ?_)
       obtain ⟨r39,h,q⟩:=bE q
       refine OL (cA H67 (((rd (Ty.z T3) n.2 i).2).2,(1:Int),(16:Int)) h rfl (R3 (K0 (cT ?_))))
       cases sE q
       refine E4 (iuR [1]) (R3 (AJ (AI rfl TV)))
      refine gM (gM (cF ?_))
      cases sE q
      refine E4 (iuR [1]) (R3 (AJ (AI rfl TV)))
     refine OL (cI q (fun q=>?_) (fun q=>?_))
     ·obtain ⟨r40,h,q⟩:=bE q
      refine OL (cA H67 (((rd (Ty.z T3) n.2 i).2).1,(1:Int),(16:Int)) h rfl (R3 (K0 (cI q (fun q=>?_) (fun q=>?_)))))
      ·refine gX (gX (cT ?_))
       cases sE q
       refine E4 (iuR [1]) (R3 (AJ (AI rfl TV)))
      refine gM (gM (cF ?_))
      cases sE q
      refine E4 (iuR [1]) (R3 (AJ (AI rfl TV)))
     refine OL (cI q (fun q=>?_) (fun q=>?_))
     ·obtain ⟨r41,h,q⟩:=bE q
      refine OL (cA H67 (((rd (Ty.z T3) n.2 i).2).1,(1:Int),(5:Int)) h rfl (R3 (K0 (cI q (fun q=>?_) (fun q=>?_)))))
      ·refine gX (gX (cT ?_))
       cases sE q
       refine E4 (iuR [1]) (R3 (AJ (AI rfl TV)))
      refine gM (gM (cF ?_))
      cases sE q
      refine E4 (iuR [1]) (R3 (AJ (AI rfl TV)))
     refine OL (cI q (fun q=>?_) (fun q=>?_))
     ·refine cI q (fun q=>?_) (fun q=>?_)
      ·refine gX (gX (cT ?_))
       cases sE q
       refine E4 (iuR [1]) (R3 (AJ (AI rfl TV)))
      refine gM (gM (cF ?_))
      cases sE q
      refine E4 (iuR [1]) (R3 (AJ (AI rfl TV)))
     cases sE q
     refine E4 (iuR [1]) (R3 (AJ (AI rfl TV)))
    refine AI (OL (cI q (fun q=>?_) (fun q=>?_))) TV
    ·cases sE q
     refine OL (E4 [] (R2 (AI TV TV)))
    refine EI (i64.wrap (i+1)) (AI q (E4 (iuR [1]) (R2 (AJ (AI rfl TV)))))
   cases sE q
   refine E4 [] (AI rfl (AI TV TV))
  rcases z30 with z30a | z30b
  ·dsimp only [Fx] at q
   refine AI ?_ TV
   cases sE q
   refine AI rfl (E4 [] (R2 (AI TV TV)))
  dsimp only [Fx] at q
  refine AI (OL ?_) TV
  cases sE q
  refine AI rfl (E4 [] (R2 (AI TV TV)))
 dsimp only [Fx] at q
 refine AI ?_ TV
 cases sE q
 refine AI rfl (E4 [] (R2 (AI TV TV)))
theorem H39:HI C39 39:=hI Tryz.f39 rfl fun x=>V39 x
def f40_l1 (d:LI) (go:F9→Option Int) (n i:Int):Option Int:=
 bif (decide (i<d.length)) then
 E9 (0≤i∧i<d.length)<|
 go ((i64.wrap (n*(rd 0 d i))),(i64.wrap (i+1)))
 else
 some n
def f40 (d:LI):Option Int:=
 Ey (Fq (fun go x=>f40_l1 d go x.1 x.2) Fv ((1:Int),(0:Int))) fun z1=>
 some z1
def C40:Con:=⟨LI,Int,0,fun x=>[.dat T6 x],NX,fun x=>f40 x,fun y=>[.dat T1 y],NX,0⟩
theorem V40 d y (q:f40 d=some y):VC Tryz.f40 C40 d y:=by
 unfold f40 at q
 refine OL (OL (OL (OL ?_)))
 obtain ⟨z1,h,q⟩:=bE q
 refine lJ h (fun x=>⟨[(0,.dat T6 d),(3,.dat T1 x.1),(4,.dat T1 x.2)],[],0⟩) (fun z=>[(2,⟨[(3,.dat T1 z)],[],0⟩)]) (E4 [] (R4 (AI TV TV))) (fun m=>F3 (fun n=>fun i z q=>?_)) ?_
 ·have q:f40_l1 d _ n i=some z:=q
  unfold f40_l1 at q
  refine OL (OL (cI q (fun q=>?_) (fun q=>?_)))
  ·refine OL (gI q (fun q=>?_))
   refine EI ((i64.wrap (n*(rd 0 d i))),(i64.wrap (i+1))) (AI q (E4 [] (R4 (AI TV TV))))
  cases sE q
  refine E4 [] (R2 (AI TV TV))
 refine AI (OL ?_) TV
 cases sE q
 refine AI rfl (E4 [] (R2 (AI TV TV)))
theorem H40:HI C40 40:=hI Tryz.f40 rfl fun x=>V40 x
end Go.Proofs
