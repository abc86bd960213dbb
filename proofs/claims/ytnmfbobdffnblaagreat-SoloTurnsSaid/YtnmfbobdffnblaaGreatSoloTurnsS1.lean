import Derived.Test.YtnmfbobdffnblaaGreatSoloTurnsS0
set_option linter.unusedVariables false
set_option maxRecDepth 100000
set_option maxHeartbeats 8000000
namespace Go.Proofs
open Go.AM
open IntKind (i64 u64 i32 u32 i16 u16 i8 u8)
def f180_j13 (d big q11_19:LI) (v23 rest i:Int) (l1_2:LI):Option LI:=
 Ad (0≤(i64.wrap (i-(i64.wrap ((big.length:Int)-d.length))))∧(i64.wrap (i-(i64.wrap ((big.length:Int)-d.length))))<d.length)<|
 bif (decide ((rd 0 d (i64.wrap (i-(i64.wrap ((big.length:Int)-d.length)))))>1)) then
 Ad (0≤v23∧v23<l1_2.length)<|
 Ad (0≤i∧i<big.length)<|
 Ad ((rd 0 big i)≠0)<|
 Ad (0≤(i64.wrap (i-(i64.wrap ((big.length:Int)-d.length))))∧(i64.wrap (i-(i64.wrap ((big.length:Int)-d.length))))<q11_19.length)<|
 Ad (0≤v23∧v23<l1_2.length)<|
 some (List.set l1_2 (Int.toNat v23) (i64.wrap ((rd 0 l1_2 v23)+(i64.wrap ((Int.tmod rest (rd 0 big i))*(rd 0 q11_19 (i64.wrap (i-(i64.wrap ((big.length:Int)-d.length))))))))))
 else
 some l1_2
def f180_l12 (d big q11_19:LI) (v23:Int) (go:(Int×Bc)→Option LI) (rest i:Int) (l1_2:LI):Option LI:=
 bif (decide (i≥(i64.wrap ((big.length:Int)-d.length)))) then
 Ac (f180_j13 d big q11_19 v23 rest i l1_2) fun z14=>
 Ad (0≤i∧i<big.length)<|
 Ad ((rd 0 big i)≠0)<|
 go ((i64.wrap (Int.tdiv rest (rd 0 big i))),(i64.wrap (i-1)),z14)
 else
 some l1_2
def f180_l9 (d big q11_19:LI) (r1:Int) (go:Bc→Option LI) (v23:Int) (l1:LI):Option LI:=
 bif (decide (v23<(List.length (List.replicate (Int.toNat r1) (0:Int)):Int))) then
 Ac (Ag (fun go x=>f180_l12 d big q11_19 v23 go x.1 x.2.1 x.2.2) Ah (v23,(i64.wrap ((big.length:Int)-1)),l1)) fun z13=>
 go ((i64.wrap (v23+1)),z13)
 else
 some l1
def f180 (d big:LI):Option LI:=
 Ac (f214 d) fun q11_19=>
 Ac (f116 big) fun r1=>
 Ad (0≤r1∧r1≤r1∧Int.toNat r1*8≤140737488355328)<|
 Ac (Ag (fun go x=>f180_l9 d big q11_19 r1 go x.1 x.2) Ah ((0:Int),(List.replicate (Int.toNat r1) (0:Int)))) fun z10=>
 some z10
def C180:Con:=⟨Al,LI,0,fun x=>[.dat T5 x.1,.dat T5 x.2],NX,fun x=>f180 x.1 x.2,fun y=>[O0 0],fun y=>[(0,.arr 3 T0 y)],1⟩
theorem V180 d big y (q:f180 d big=some y):VC Tryz.f180 C180 (d,big) y:=by
 unfold f180 at q
 refine OL (OL ?_)
 obtain ⟨q11_19,h,q⟩:=bE q
 refine OL (cA H214 d h rfl (AI rfl (K0 (OL ?_))))
 obtain ⟨r1,h,q⟩:=bE q
 refine OL (cA H116 big h rfl (AI rfl (K0 (gI q (fun q=>?_)))))
 refine OL (OL ?_)
 obtain ⟨z10,hz10,q⟩:=bE q
 let e0:LE:=fun zz=>(0,.dat T5 d)::(1,.dat T5 big)::(5,O0 0)::(6,.dat T0 (i64.wrap ((big.length:Int)-d.length)))::(7,O0 1)::zz
 let e1:LE:=fun zz=>e0 ((22,.dat T0 (List.length (List.replicate (Int.toNat r1) (0:Int)):Int))::zz)
 refine lJ hz10 (fun x=>⟨e1 [(23,.dat T0 x.1)],[(0,.arr 3 T0 q11_19),(1,.arr 3 T0 x.2)],2⟩) (fun z=>[(2,⟨[(7,O0 0)],[(0,.arr 3 T0 z)],1⟩)]) (E4 I2 (R6 (AI (R2 TV) (R2 TV)))) (fun m=>An (fun v23=>fun l1 z q=>?_)) ?_
 ·have q:f180_l9 d big q11_19 r1 _ v23 l1=some z:=q
  unfold f180_l9 at q
  refine OL (OL (cI q (fun q=>?_) (fun q=>?_)))
  ·refine OL (OL (OL (OL ?_)))
   obtain ⟨z13,h,q⟩:=bE q
   refine lJ h (fun x=>⟨e0 [(8,.dat T0 v23),(9,.dat T0 x.1),(10,.dat T0 x.2.1),(22,.dat T0 (List.length (List.replicate (Int.toNat r1) (0:Int)):Int)),(23,.dat T0 v23)],[(0,.arr 3 T0 q11_19),(1,.arr 3 T0 x.2.2)],2⟩) (fun z=>[(4,⟨e1 [(23,.dat T0 v23)],[(0,.arr 3 T0 q11_19),(1,.arr 3 T0 z)],2⟩)]) (E4 I2 (R9 (AI (R2 TV) (R2 TV)))) (fun m=>An (fun rest=>An (fun i=>fun l1_2 z q=>?_))) ?_
   ·have q:f180_l12 d big q11_19 v23 _ rest i l1_2=some z:=q
    unfold f180_l12 at q
    refine OL (OL (cI q (fun q=>?_) (fun q=>?_)))
    ·refine OL ?_
     obtain ⟨z14,hz14,q⟩:=bE q
     refine OQ ⟨[(0,⟨e0 [(8,.dat T0 v23),(9,.dat T0 rest),(10,.dat T0 i),(22,.dat T0 (List.length (List.replicate (Int.toNat r1) (0:Int)):Int)),(23,.dat T0 v23)],[(0,.arr 3 T0 q11_19),(1,.arr 3 T0 z14)],2⟩)],?_,?_⟩
     ·have q:=hz14
      clear hz14
      unfold f180_j13 at q
      refine OL (gI q (fun q=>?_))
      refine cI q (fun q=>?_) (fun q=>?_)
      ·refine EI (tU 0 19 (.alt 19 .done .done)) (EI [(19,[1])] (EI [] (AI rfl (gI q (fun q=>?_)))))
       refine gI q (fun q=>?_)
       refine gI q (fun q=>?_)
       refine gI q (fun q=>?_)
       refine gI q (fun q=>?_)
       refine AI TV (OL ?_)
       cases sE q
       refine E4 I2 (R9 (AI (R2 TV) (R2 TV)))
      cases sE q
      refine E4 I2 (R9 (AI (R2 TV) (R2 TV)))
     refine AI (gI q (fun q=>?_)) TV
     refine gI q (fun q=>?_)
     refine EI ((i64.wrap (Int.tdiv rest (rd 0 big i))),(i64.wrap (i-1)),z14) (AI q (E4 I2 (R9 (AI (R2 TV) (R2 TV)))))
    cases sE q
    refine E4 I2 (R6 (AI (R2 TV) (R2 TV)))
   refine AI (EI ((i64.wrap (v23+1)),z13) (AI q (E4 I2 (R6 (AI (R2 TV) (R2 TV)))))) TV
  cases sE q
  refine E4 (iuR [2]) (AI rfl (AJ (AI rfl TV)))
 refine AI (OL ?_) TV
 cases sE q
 refine AI rfl (E4 (iuR [1]) (AI rfl (AJ (AI rfl TV))))
theorem H180:HI C180 180:=hI Tryz.f180 rfl fun x=>V180 x.1 x.2
def f33_j1 (a b:Int):Option (Sum Unit Unit):=
 bif (!((decide (a<0))==(decide (b<0)))) then
 some (Sum.inr ())
 else
 bif ((decide ((i64.wrap (a+b))<0))==(decide (a<0))) then
 some (Sum.inr ())
 else
 some (Sum.inl ())
def f33 (a b:Int):Option Int:=
 Ac (f33_j1 a b) fun z1=>
 Ak z1 (fun z1a=>
 bif (decide (a<0)) then
 some (-9223372036854775808:Int)
 else
 some (9223372036854775807:Int)) (fun z1b=>
 some (i64.wrap (a+b)))
def C33:Con:=⟨Ax,Int,0,fun x=>[.dat T0 x.1,.dat T0 x.2],NX,fun x=>f33 x.1 x.2,fun y=>[.dat T0 y],NX,0⟩
theorem V33 a b y (q:f33 a b=some y):VC Tryz.f33 C33 (a,b) y:=by
 unfold f33 at q
 refine OL (OL ?_)
 obtain ⟨z1,hz1,q⟩:=bE q
 refine OQ ⟨Sum.elim (fun z1a=>[(0,⟨[(0,.dat T0 a)],[],0⟩)]) (fun z1b=>[(1,⟨[(4,.dat T0 (i64.wrap (a+b)))],[],0⟩)]) z1,?_,?_⟩
 ·have q:=hz1
  clear hz1
  unfold f33_j1 at q
  refine OL (cN q (fun q=>?_) (fun q=>?_))
  ·refine gY (gY (gY (gY (cF (cI q (fun q=>?_) (fun q=>?_))))))
   ·cases sE q
    refine OL (E4 [] (R2 (AI TV TV)))
   cases sE q
   refine E4 [] (R2 (AI TV TV))
  refine gN (gN (gN (gN (cT (cT (OL ?_))))))
  cases sE q
  refine E4 [] (R2 (AI TV TV))
 rcases z1 with z1a | z1b
 ·dsimp only [Ak] at q
  refine AI (OL (OL (cI q (fun q=>?_) (fun q=>?_)))) TV
  ·cases sE q
   refine OL (AI rfl (E4 [] (R2 (AI TV TV))))
  cases sE q
  refine OL (AI rfl (E4 [] (R2 (AI TV TV))))
 dsimp only [Ak] at q
 refine AI ?_ TV
 cases sE q
 refine AI rfl (E4 [] (R2 (AI TV TV)))
theorem H33:HI C33 33:=hI Tryz.f33 rfl fun x=>V33 x.1 x.2
def f153_33_j3 (a b:Al):Option Bool:=
 Ac (f119 (a.1,a.2)) fun r9=>
 bif (!r9) then
 some true
 else
 Ac (f119 (b.1,b.2)) fun r10=>
 some (!r10)
def f153_33_j2 (a b:Al):Option (Sum Unit Unit):=
 Ac (f153_33_j3 a b) fun z8=>
 bif z8 then
 some (Sum.inr ())
 else
 some (Sum.inl ())
def f153_33_l4 (a b:Al) (r12:Bl) (q7_3 q7_7:LI) (go:Bc→Option LI) (v52:Int) (l7:LI):Option LI:=
 bif (decide (v52<r12.2.2.length)) then
 Ad (0≤v52∧v52<q7_3.length)<|
 Ad (0≤(rd 0 q7_3 v52)∧(rd 0 q7_3 v52)<a.2.length)<|
 Ad (0≤v52∧v52<q7_7.length)<|
 Ad (0≤(rd 0 q7_7 v52)∧(rd 0 q7_7 v52)<b.2.length)<|
 Ac (f33 (rd 0 a.2 (rd 0 q7_3 v52)) (rd 0 b.2 (rd 0 q7_7 v52))) fun q11_20=>
 Ad (0≤v52∧v52<l7.length)<|
 go ((i64.wrap (v52+1)),(List.set l7 (Int.toNat v52) q11_20))
 else
 some l7
def f153_33 (a b:Al):Option Bl:=
 Ac (f153_33_j2 a b) fun z5=>
 Ak z5 (fun z5a=>
 Ac (f179 a.1 b.1) fun r11=>
 bif (r11.1 != 0) then
 some (r11.1,[],[])
 else
 Ac (f75 r11.2 (0:Int)) fun r12=>
 Ac (f180 a.1 r11.2) fun q7_3=>
 Ac (f180 b.1 r11.2) fun q7_7=>
 Ac (Ag (fun go x=>f153_33_l4 a b r12 q7_3 q7_7 go x.1 x.2) Ah ((0:Int),r12.2.2)) fun z13=>
 some ((0:Int),r12.2.1,z13)) (fun z5b=>
 some ((1:Int),[],[]))
def C153_33:Con:=⟨Al×Al,Bl,0,fun x=>[.dat T8 x.1,.dat T8 x.2,.raw false [(.c (.func (.func 33) #[] #[]))]],NX,fun x=>f153_33 x.1 x.2,fun y=>[.raw true [(.osl 0),(.osl 1)],.dat T0 y.1],fun y=>[(0,.arr 3 T0 y.2.1),(1,.arr 26 T0 y.2.2)],2⟩
theorem V153_33 a b y (q:f153_33 a b=some y):VC Tryz.f153 C153_33 (a,b) y:=by
 unfold f153_33 at q
 refine OL ?_
 obtain ⟨z5,hz5,q⟩:=bE q
 let e0:LE:=fun zz=>(2,.raw false [(.c (.func (.func 33) #[] #[]))])::(3,P0 0 0)::(4,P0 1 0)::(6,P0 2 0)::zz
 let h1:LH:=fun zz=>(0,.cells [(.d T5 a.1),(.d T5 a.2)])::(1,.cells [(.d T5 b.1),(.d T5 b.2)])::(2,.cells [N0,N0])::zz
 refine OQ ⟨Sum.elim (fun z5a=>[(0,⟨e0 [],h1 [],3⟩)]) (fun z5b=>[(1,⟨[(6,P0 0 0),(7,D0 1)],[(0,.cells [N0,N0])],1⟩)]) z5,?_,?_⟩
 ·have q:=hz5
  clear hz5
  unfold f153_33_j2 at q
  obtain ⟨z8,hz8,q⟩:=bE q
  refine OQ ⟨[(0,⟨e0 [(22,.dat .bool z8)],h1 [],3⟩)],?_,?_⟩
  ·have q:=hz8
   clear hz8
   unfold f153_33_j3 at q
   obtain ⟨r9,h,q⟩:=bE q
   refine OL (cA H119 (a.1,a.2) h rfl (R2 (K0 (cN q (fun q=>?_) (fun q=>?_)))))
   ·refine gY ?_
    obtain ⟨r10,h,q⟩:=bE q
    refine OL (cA H119 (b.1,b.2) h rfl (R2 (K0 (gY (cF ?_)))))
    cases sE q
    refine E4 I3 (R2 (AI (R4 TV) (R3 TV)))
   refine gN (gN (cT ?_))
   cases sE q
   refine E4 I3 (R2 (AI (R4 TV) (R3 TV)))
  refine AI (cI q (fun q=>?_) (fun q=>?_)) TV
  ·refine OL (OL ?_)
   cases sE q
   refine E4 (iuR [3]) (R2 (AJ (AI rfl TV)))
  cases sE q
  refine E4 I3 (AI rfl (AI (R4 TV) (R3 TV)))
 rcases z5 with z5a | z5b
 ·dsimp only [Ak] at q
  refine AI (OL ?_) TV
  obtain ⟨r11,h,q⟩:=bE q
  refine OL (cA H179 (a.1,b.1) h rfl (R2 (K0 (OL (OL (cI q (fun q=>?_) (fun q=>?_)))))))
  ·refine OL (OL ?_)
   cases sE q
   refine AI rfl (E4 (iuR [0,0]) (R2 (AJ (R2 TV))))
  refine OL ?_
  obtain ⟨r12,h,q⟩:=bE q
  refine OL (cD H75 (r11.2,(0:Int)) h rfl (R2 (AI (fun _=>rfl) (R2 (AI TV (AI TV (OL (OL (EI (tU 0 3 (tU 4 3 (.alt 3 (.alt 7 (.take 8 (.take 9 .done)) .done) .done))) (EI [] (EI [] (AI rfl (AI TV ?_)))))))))))))
  obtain ⟨q7_3,h,q⟩:=bE q
  refine OL (cD H180 (a.1,r11.2) h rfl (R2 (AI (fun _=>rfl) (R2 (AI TV (AI TV (AI TV ?_)))))))
  obtain ⟨q7_7,h,q⟩:=bE q
  refine OL (cD H180 (b.1,r11.2) h rfl (R2 (AI (fun _=>rfl) (R2 (AI TV (AI TV (OL (OL ?_))))))))
  obtain ⟨z13,h,q⟩:=bE q
  refine lJ h (fun x=>⟨e0 [(10,P0 3 0),(12,O0 4),(13,O0 5),(51,.dat T0 (r12.2.2.length:Int)),(52,.dat T0 x.1)],h1 [(3,.cells [(.osl 6),(.osl 7)]),(4,.arr 3 T0 q7_3),(5,.arr 3 T0 q7_7),(6,.arr 3 T0 r12.2.1),(7,.arr 26 T0 x.2)],8⟩) (fun z=>[(2,⟨[(6,P0 0 0),(10,P0 1 0)],[(0,.cells [N0,N0]),(1,.cells [(.osl 2),(.osl 3)]),(2,.arr 3 T0 r12.2.1),(3,.arr 26 T0 z)],4⟩)]) (E4 (iuR [1,2,3,7,8,9,5,6]) (R3 (AI (R7 TV) (R8 TV)))) (fun m=>An (fun v52=>fun l7 z q=>?_)) ?_
  ·have q:f153_33_l4 a b r12 q7_3 q7_7 _ v52 l7=some z:=q
   unfold f153_33_l4 at q
   refine OL (OL (cI q (fun q=>?_) (fun q=>?_)))
   ·refine OL (OL (EI (tU 0 20 (.alt 20 (.take 21 (.alt 22 .done .done)) .done)) (EI [] (EI [] (AI rfl (gI q (fun q=>?_)))))))
    refine gI q (fun q=>?_)
    refine gI q (fun q=>?_)
    refine gI q (fun q=>?_)
    refine AI TV ?_
    obtain ⟨q11_20,h,q⟩:=bE q
    refine OL (cA H33 ((rd 0 a.2 (rd 0 q7_3 v52)),(rd 0 b.2 (rd 0 q7_7 v52))) h rfl (R2 (K0 (gI q (fun q=>?_)))))
    refine AI TV (OL (EI ((i64.wrap (v52+1)),(List.set l7 (Int.toNat v52) q11_20)) (AI q (E4 I8 (R3 (AI (R7 TV) (R8 TV)))))))
   cases sE q
   refine E4 (iuR [3,4,7,8]) (AI rfl (AI (R2 TV) (R4 TV)))
  refine AI (OL (OL ?_)) TV
  cases sE q
  refine AI rfl (E4 (iuR [3,4]) (R2 (AJ (R2 TV))))
 dsimp only [Ak] at q
 refine AI ?_ TV
 cases sE q
 refine AI rfl (E4 (iuR [0,0]) (R2 (AJ (R2 TV))))
theorem C153_33_holds:HP C153_33 153:=hH Tryz.f153 (by kernel_rfl) rfl (fun x y q=>V153_33 x.1 x.2 y q)
theorem f153_33_in : ∃ fn,Tryz.prog.funcs[153]? = some fn ∧ fn.body.isSome = true ∧ (fn.name == "runtime.NumGoroutine") = false := ⟨Tryz.f153,by kernel_rfl,by kernel_rfl,by kernel_rfl⟩
def f123 (a b:Al):Option Bl:=
 Ac (f153_33 (a.1,a.2) (b.1,b.2)) fun r1=>
 some (r1.1,r1.2.1,r1.2.2)
def C123:Con:=⟨Al×Al,Bl,0,fun x=>[.dat T8 x.1,.dat T8 x.2],NX,fun x=>f123 x.1 x.2,fun y=>[.raw true [(.osl 0),(.osl 1)],.dat T0 y.1],fun y=>[(0,.arr 3 T0 y.2.1),(1,.arr 26 T0 y.2.2)],2⟩
theorem V123 a b y (q:f123 a b=some y):VC Tryz.f123 C123 (a,b) y:=by
 unfold f123 at q
 refine OL (OL ?_)
 obtain ⟨r1,h,q⟩:=bE q
 refine OL (AI f153_33_in (cV (cQ C153_33 ((a.1,a.2),(b.1,b.2)) r1 [] false C153_33_holds h rfl rfl (R4 (AI NH (R2 (AJ (AI TV (OL ?_)))))))))
 cases sE q
 refine AI rfl (E4 (iuR [4,5]) (R2 (AJ (R2 TV))))
theorem H123:HI C123 123:=hI Tryz.f123 rfl fun x=>V123 x.1 x.2
def f36_j1 (a b:Int):Option (Sum Unit Unit):=
 bif ((decide (a<0))==(decide (b<0))) then
 some (Sum.inr ())
 else
 bif ((decide ((i64.wrap (a-b))<0))==(decide (a<0))) then
 some (Sum.inr ())
 else
 some (Sum.inl ())
def f36 (a b:Int):Option Int:=
 Ac (f36_j1 a b) fun z1=>
 Ak z1 (fun z1a=>
 bif (decide (a<0)) then
 some (-9223372036854775808:Int)
 else
 some (9223372036854775807:Int)) (fun z1b=>
 some (i64.wrap (a-b)))
def C36:Con:=⟨Ax,Int,0,fun x=>[.dat T0 x.1,.dat T0 x.2],NX,fun x=>f36 x.1 x.2,fun y=>[.dat T0 y],NX,0⟩
theorem V36 a b y (q:f36 a b=some y):VC Tryz.f36 C36 (a,b) y:=by
 unfold f36 at q
 refine OL (OL ?_)
 obtain ⟨z1,hz1,q⟩:=bE q
 refine OQ ⟨Sum.elim (fun z1a=>[(0,⟨[(0,.dat T0 a)],[],0⟩)]) (fun z1b=>[(1,⟨[(4,.dat T0 (i64.wrap (a-b)))],[],0⟩)]) z1,?_,?_⟩
 ·have q:=hz1
  clear hz1
  unfold f36_j1 at q
  refine OL (cN q (fun q=>?_) (fun q=>?_))
  ·refine gY (gY (gY (gY (cF (cI q (fun q=>?_) (fun q=>?_))))))
   ·cases sE q
    refine OL (E4 [] (R2 (AI TV TV)))
   cases sE q
   refine E4 [] (R2 (AI TV TV))
  refine gN (gN (gN (gN (cT (cT (OL ?_))))))
  cases sE q
  refine E4 [] (R2 (AI TV TV))
 rcases z1 with z1a | z1b
 ·dsimp only [Ak] at q
  refine AI (OL (OL (cI q (fun q=>?_) (fun q=>?_)))) TV
  ·cases sE q
   refine OL (AI rfl (E4 [] (R2 (AI TV TV))))
  cases sE q
  refine OL (AI rfl (E4 [] (R2 (AI TV TV))))
 dsimp only [Ak] at q
 refine AI ?_ TV
 cases sE q
 refine AI rfl (E4 [] (R2 (AI TV TV)))
theorem H36:HI C36 36:=hI Tryz.f36 rfl fun x=>V36 x.1 x.2
def f153_36_j3 (a b:Al):Option Bool:=
 Ac (f119 (a.1,a.2)) fun r9=>
 bif (!r9) then
 some true
 else
 Ac (f119 (b.1,b.2)) fun r10=>
 some (!r10)
def f153_36_j2 (a b:Al):Option (Sum Unit Unit):=
 Ac (f153_36_j3 a b) fun z8=>
 bif z8 then
 some (Sum.inr ())
 else
 some (Sum.inl ())
def f153_36_l4 (a b:Al) (r12:Bl) (q7_3 q7_7:LI) (go:Bc→Option LI) (v52:Int) (l7:LI):Option LI:=
 bif (decide (v52<r12.2.2.length)) then
 Ad (0≤v52∧v52<q7_3.length)<|
 Ad (0≤(rd 0 q7_3 v52)∧(rd 0 q7_3 v52)<a.2.length)<|
 Ad (0≤v52∧v52<q7_7.length)<|
 Ad (0≤(rd 0 q7_7 v52)∧(rd 0 q7_7 v52)<b.2.length)<|
 Ac (f36 (rd 0 a.2 (rd 0 q7_3 v52)) (rd 0 b.2 (rd 0 q7_7 v52))) fun q11_20=>
 Ad (0≤v52∧v52<l7.length)<|
 go ((i64.wrap (v52+1)),(List.set l7 (Int.toNat v52) q11_20))
 else
 some l7
def f153_36 (a b:Al):Option Bl:=
 Ac (f153_36_j2 a b) fun z5=>
 Ak z5 (fun z5a=>
 Ac (f179 a.1 b.1) fun r11=>
 bif (r11.1 != 0) then
 some (r11.1,[],[])
 else
 Ac (f75 r11.2 (0:Int)) fun r12=>
 Ac (f180 a.1 r11.2) fun q7_3=>
 Ac (f180 b.1 r11.2) fun q7_7=>
 Ac (Ag (fun go x=>f153_36_l4 a b r12 q7_3 q7_7 go x.1 x.2) Ah ((0:Int),r12.2.2)) fun z13=>
 some ((0:Int),r12.2.1,z13)) (fun z5b=>
 some ((1:Int),[],[]))
def C153_36:Con:=⟨Al×Al,Bl,0,fun x=>[.dat T8 x.1,.dat T8 x.2,.raw false [(.c (.func (.func 36) #[] #[]))]],NX,fun x=>f153_36 x.1 x.2,fun y=>[.raw true [(.osl 0),(.osl 1)],.dat T0 y.1],fun y=>[(0,.arr 3 T0 y.2.1),(1,.arr 26 T0 y.2.2)],2⟩
theorem V153_36 a b y (q:f153_36 a b=some y):VC Tryz.f153 C153_36 (a,b) y:=by
 unfold f153_36 at q
 refine OL ?_
 obtain ⟨z5,hz5,q⟩:=bE q
 let e0:LE:=fun zz=>(2,.raw false [(.c (.func (.func 36) #[] #[]))])::(3,P0 0 0)::(4,P0 1 0)::(6,P0 2 0)::zz
 let h1:LH:=fun zz=>(0,.cells [(.d T5 a.1),(.d T5 a.2)])::(1,.cells [(.d T5 b.1),(.d T5 b.2)])::(2,.cells [N0,N0])::zz
 refine OQ ⟨Sum.elim (fun z5a=>[(0,⟨e0 [],h1 [],3⟩)]) (fun z5b=>[(1,⟨[(6,P0 0 0),(7,D0 1)],[(0,.cells [N0,N0])],1⟩)]) z5,?_,?_⟩
 ·have q:=hz5
  clear hz5
  unfold f153_36_j2 at q
  obtain ⟨z8,hz8,q⟩:=bE q
  refine OQ ⟨[(0,⟨e0 [(22,.dat .bool z8)],h1 [],3⟩)],?_,?_⟩
  ·have q:=hz8
   clear hz8
   unfold f153_36_j3 at q
   obtain ⟨r9,h,q⟩:=bE q
   refine OL (cA H119 (a.1,a.2) h rfl (R2 (K0 (cN q (fun q=>?_) (fun q=>?_)))))
   ·refine gY ?_
    obtain ⟨r10,h,q⟩:=bE q
    refine OL (cA H119 (b.1,b.2) h rfl (R2 (K0 (gY (cF ?_)))))
    cases sE q
    refine E4 I3 (R2 (AI (R4 TV) (R3 TV)))
   refine gN (gN (cT ?_))
   cases sE q
   refine E4 I3 (R2 (AI (R4 TV) (R3 TV)))
  refine AI (cI q (fun q=>?_) (fun q=>?_)) TV
  ·refine OL (OL ?_)
   cases sE q
   refine E4 (iuR [3]) (R2 (AJ (AI rfl TV)))
  cases sE q
  refine E4 I3 (AI rfl (AI (R4 TV) (R3 TV)))
 rcases z5 with z5a | z5b
 ·dsimp only [Ak] at q
  refine AI (OL ?_) TV
  obtain ⟨r11,h,q⟩:=bE q
  refine OL (cA H179 (a.1,b.1) h rfl (R2 (K0 (OL (OL (cI q (fun q=>?_) (fun q=>?_)))))))
  ·refine OL (OL ?_)
   cases sE q
   refine AI rfl (E4 (iuR [0,0]) (R2 (AJ (R2 TV))))
  refine OL ?_
  obtain ⟨r12,h,q⟩:=bE q
  refine OL (cD H75 (r11.2,(0:Int)) h rfl (R2 (AI (fun _=>rfl) (R2 (AI TV (AI TV (OL (OL (EI (tU 0 3 (tU 4 3 (.alt 3 (.alt 7 (.take 8 (.take 9 .done)) .done) .done))) (EI [] (EI [] (AI rfl (AI TV ?_)))))))))))))
  obtain ⟨q7_3,h,q⟩:=bE q
  refine OL (cD H180 (a.1,r11.2) h rfl (R2 (AI (fun _=>rfl) (R2 (AI TV (AI TV (AI TV ?_)))))))
  obtain ⟨q7_7,h,q⟩:=bE q
  refine OL (cD H180 (b.1,r11.2) h rfl (R2 (AI (fun _=>rfl) (R2 (AI TV (AI TV (OL (OL ?_))))))))
  obtain ⟨z13,h,q⟩:=bE q
  refine lJ h (fun x=>⟨e0 [(10,P0 3 0),(12,O0 4),(13,O0 5),(51,.dat T0 (r12.2.2.length:Int)),(52,.dat T0 x.1)],h1 [(3,.cells [(.osl 6),(.osl 7)]),(4,.arr 3 T0 q7_3),(5,.arr 3 T0 q7_7),(6,.arr 3 T0 r12.2.1),(7,.arr 26 T0 x.2)],8⟩) (fun z=>[(2,⟨[(6,P0 0 0),(10,P0 1 0)],[(0,.cells [N0,N0]),(1,.cells [(.osl 2),(.osl 3)]),(2,.arr 3 T0 r12.2.1),(3,.arr 26 T0 z)],4⟩)]) (E4 (iuR [1,2,3,7,8,9,5,6]) (R3 (AI (R7 TV) (R8 TV)))) (fun m=>An (fun v52=>fun l7 z q=>?_)) ?_
  ·have q:f153_36_l4 a b r12 q7_3 q7_7 _ v52 l7=some z:=q
   unfold f153_36_l4 at q
   refine OL (OL (cI q (fun q=>?_) (fun q=>?_)))
   ·refine OL (OL (EI (tU 0 20 (.alt 20 (.take 21 (.alt 22 .done .done)) .done)) (EI [] (EI [] (AI rfl (gI q (fun q=>?_)))))))
    refine gI q (fun q=>?_)
    refine gI q (fun q=>?_)
    refine gI q (fun q=>?_)
    refine AI TV ?_
    obtain ⟨q11_20,h,q⟩:=bE q
    refine OL (cA H36 ((rd 0 a.2 (rd 0 q7_3 v52)),(rd 0 b.2 (rd 0 q7_7 v52))) h rfl (R2 (K0 (gI q (fun q=>?_)))))
    refine AI TV (OL (EI ((i64.wrap (v52+1)),(List.set l7 (Int.toNat v52) q11_20)) (AI q (E4 I8 (R3 (AI (R7 TV) (R8 TV)))))))
   cases sE q
   refine E4 (iuR [3,4,7,8]) (AI rfl (AI (R2 TV) (R4 TV)))
  refine AI (OL (OL ?_)) TV
  cases sE q
  refine AI rfl (E4 (iuR [3,4]) (R2 (AJ (R2 TV))))
 dsimp only [Ak] at q
 refine AI ?_ TV
 cases sE q
 refine AI rfl (E4 (iuR [0,0]) (R2 (AJ (R2 TV))))
theorem C153_36_holds:HP C153_36 153:=hH Tryz.f153 (by kernel_rfl) rfl (fun x y q=>V153_36 x.1 x.2 y q)
theorem f153_36_in : ∃ fn,Tryz.prog.funcs[153]? = some fn ∧ fn.body.isSome = true ∧ (fn.name == "runtime.NumGoroutine") = false := ⟨Tryz.f153,by kernel_rfl,by kernel_rfl,by kernel_rfl⟩
def f206 (a b:Al):Option Bl:=
 Ac (f153_36 (a.1,a.2) (b.1,b.2)) fun r1=>
 some (r1.1,r1.2.1,r1.2.2)
def C206:Con:=⟨Al×Al,Bl,0,fun x=>[.dat T8 x.1,.dat T8 x.2],NX,fun x=>f206 x.1 x.2,fun y=>[.raw true [(.osl 0),(.osl 1)],.dat T0 y.1],fun y=>[(0,.arr 3 T0 y.2.1),(1,.arr 26 T0 y.2.2)],2⟩
theorem V206 a b y (q:f206 a b=some y):VC Tryz.f206 C206 (a,b) y:=by
 unfold f206 at q
 refine OL (OL ?_)
 obtain ⟨r1,h,q⟩:=bE q
 refine OL (AI f153_36_in (cV (cQ C153_36 ((a.1,a.2),(b.1,b.2)) r1 [] false C153_36_holds h rfl rfl (R4 (AI NH (R2 (AJ (AI TV (OL ?_)))))))))
 cases sE q
 refine AI rfl (E4 (iuR [4,5]) (R2 (AJ (R2 TV))))
theorem H206:HI C206 206:=hI Tryz.f206 rfl fun x=>V206 x.1 x.2
def f51 (v:Int):Option Int:=
 bif (decide (v<0)) then
 some (u64.wrap (0-(u64.wrap v)))
 else
 some (u64.wrap v)
def C51:Con:=⟨Int,Int,0,fun x=>[.dat T0 x],NX,fun x=>f51 x,fun y=>[.dat T9 y],NX,0⟩
theorem V51 v y (q:f51 v=some y):VC Tryz.f51 C51 v y:=by
 unfold f51 at q
 refine OL (OL (OL (cI q (fun q=>?_) (fun q=>?_))))
 ·cases sE q
  refine OL (AI rfl (E4 [] (R2 (AI TV TV))))
 cases sE q
 refine OL (AI rfl (E4 [] (R2 (AI TV TV))))
theorem H51:HI C51 51:=hI Tryz.f51 rfl fun x=>V51 x
def f52_j1 (hi lo:Int) (below:Bool):Option Bool:=
 bif below then
 bif (decide (hi>0)) then
 some true
 else
 some (decide (lo≥9223372036854775808))
 else
 some false
def f52 (hi lo:Int) (below:Bool):Option Int:=
 Ac (f52_j1 hi lo below) fun z1=>
 bif z1 then
 some (-9223372036854775808:Int)
 else
 bif below then
 some (i64.wrap (0-(i64.wrap lo)))
 else
 bif (decide (hi>0)) then
 some (9223372036854775807:Int)
 else
 bif (decide (lo≥9223372036854775808)) then
 some (9223372036854775807:Int)
 else
 some (i64.wrap lo)
def C52:Con:=⟨Int×Ea,Int,0,fun x=>[.dat T9 x.1,.dat T9 x.2.1,.dat .bool x.2.2],NX,fun x=>f52 x.1 x.2.1 x.2.2,fun y=>[.dat T0 y],NX,0⟩
theorem V52 hi lo below y (q:f52 hi lo below=some y):VC Tryz.f52 C52 (hi,lo,below) y:=by
 unfold f52 at q
 refine OL (OL ?_)
 obtain ⟨z1,hz1,q⟩:=bE q
 refine OQ ⟨[(0,⟨[(0,.dat T9 hi),(1,.dat T9 lo),(2,.dat .bool below),(7,.dat .bool z1)],[],0⟩)],?_,?_⟩
 ·have q:=hz1
  clear hz1
  unfold f52_j1 at q
  refine cI q (fun q=>?_) (fun q=>?_)
  ·refine gX (gX (cN q (fun q=>?_) (fun q=>?_)))
   ·refine gY (gX (cF (cT ?_)))
    cases sE q
    refine E4 [] (R5 (AI TV TV))
   refine gN (gX (cT (cT ?_)))
   cases sE q
   refine E4 [] (R5 (AI TV TV))
  refine gM (gM (gM (cF ?_)))
  cases sE q
  refine E4 [] (R5 (AI TV TV))
 refine AI (cI q (fun q=>?_) (fun q=>?_)) TV
 ·cases sE q
  refine OL (AI rfl (E4 [] (R2 (AI TV TV))))
 refine OL (cI q (fun q=>?_) (fun q=>?_))
 ·cases sE q
  refine OL (AI rfl (E4 [] (R2 (AI TV TV))))
 refine OL (cN q (fun q=>?_) (fun q=>?_))
 ·refine gY (cF (cI q (fun q=>?_) (fun q=>?_)))
  ·cases sE q
   refine OL (AI rfl (E4 [] (R2 (AI TV TV))))
  cases sE q
  refine OL (AI rfl (E4 [] (R2 (AI TV TV))))
 refine gN (cT (cT (OL ?_)))
 cases sE q
 refine AI rfl (E4 [] (R2 (AI TV TV)))
theorem H52:HI C52 52:=hI Tryz.f52 rfl fun x=>V52 x.1 x.2.1 x.2.2
def f34_j3 (r3:Ax):Option Bool:=
 bif (decide ((Af IntKind.u64 (fun p q=>p&&& q) r3.2 (4294967295:Int))>2147483648)) then
 some true
 else
 bif ((Af IntKind.u64 (fun p q=>p&&& q) r3.2 (4294967295:Int))==2147483648) then
 some ((Af IntKind.u64 (fun p q=>p&&& q) (Af IntKind.u64 (fun p q=>p||| q) (u64.wrap (r3.1*2 ^ min (Int.toNat (32:Int)) u64.bits)) (Int.fdiv r3.2 (2 ^ min (Int.toNat (32:Int)) u64.bits))) (1:Int))==1)
 else
 some false
def f34_j2 (r3:Ax):Option Ax:=
 Ac (f34_j3 r3) fun z7=>
 bif z7 then
 Ac (Es (Af IntKind.u64 (fun p q=>p||| q) (u64.wrap (r3.1*2 ^ min (Int.toNat (32:Int)) u64.bits)) (Int.fdiv r3.2 (2 ^ min (Int.toNat (32:Int)) u64.bits))) (1:Int) (0:Int)) fun r8=>
 some (r8.1,(u64.wrap ((Int.fdiv r3.1 (2 ^ min (Int.toNat (32:Int)) u64.bits))+r8.2)))
 else
 some ((Af IntKind.u64 (fun p q=>p||| q) (u64.wrap (r3.1*2 ^ min (Int.toNat (32:Int)) u64.bits)) (Int.fdiv r3.2 (2 ^ min (Int.toNat (32:Int)) u64.bits))),(Int.fdiv r3.1 (2 ^ min (Int.toNat (32:Int)) u64.bits)))
def f34 (a b:Int):Option Int:=
 Ac (f51 a) fun r1=>
 Ac (f51 b) fun r2=>
 Ac (f50 r1 r2) fun r3=>
 Ac (f34_j2 r3) fun z6=>
 Ac (f52 z6.2 z6.1 (!((decide (a<0))==(decide (b<0))))) fun r9=>
 some r9
def C34:Con:=⟨Ax,Int,0,fun x=>[.dat T0 x.1,.dat T0 x.2],NX,fun x=>f34 x.1 x.2,fun y=>[.dat T0 y],NX,0⟩
theorem V34 a b y (q:f34 a b=some y):VC Tryz.f34 C34 (a,b) y:=by
 unfold f34 at q
 refine OL (OL ?_)
 obtain ⟨r1,h,q⟩:=bE q
 refine OL (cA H51 a h rfl (AI rfl (K0 ?_)))
 obtain ⟨r2,h,q⟩:=bE q
 refine OL (cA H51 b h rfl (AI rfl (K0 ?_)))
 obtain ⟨r3,h,q⟩:=bE q
 refine OL (cA H50 (r1,r2) h rfl (R2 (K0 (OL (OL (AI (by decide) (AI (by decide) (OL (AI (by decide) ?_)))))))))
 obtain ⟨z6,hz6,q⟩:=bE q
 refine OQ ⟨[(0,⟨[(0,.dat T0 a),(1,.dat T0 b),(8,.dat T9 z6.1),(9,.dat T9 z6.2)],[],0⟩)],?_,?_⟩
 ·have q:=hz6
  clear hz6
  unfold f34_j2 at q
  obtain ⟨z7,hz7,q⟩:=bE q
  refine OQ ⟨[(0,⟨[(0,.dat T0 a),(1,.dat T0 b),(8,.dat T9 (Af IntKind.u64 (fun p q=>p||| q) (u64.wrap (r3.1*2 ^ min (Int.toNat (32:Int)) u64.bits)) (Int.fdiv r3.2 (2 ^ min (Int.toNat (32:Int)) u64.bits)))),(9,.dat T9 (Int.fdiv r3.1 (2 ^ min (Int.toNat (32:Int)) u64.bits))),(38,.dat .bool z7)],[],0⟩)],?_,?_⟩
  ·have q:=hz7
   clear hz7
   unfold f34_j3 at q
   refine cN q (fun q=>?_) (fun q=>?_)
   ·refine gY (gY (cI q (fun q=>?_) (fun q=>?_)))
    ·refine gX (gX (gY (cT (cF ?_))))
     cases sE q
     refine E4 [] (R6 (AI TV TV))
    refine gM (gM (gY (cF (cF ?_))))
    cases sE q
    refine E4 [] (R6 (AI TV TV))
   refine gN (gN (gN (cT ?_)))
   cases sE q
   refine E4 [] (R6 (AI TV TV))
  refine AI (cI q (fun q=>?_) (fun q=>?_)) TV
  ·refine OL (OL ?_)
   obtain ⟨r8,h,q⟩:=bE q
   refine OQ ⟨ext3 Es,[r8.1,r8.2],Er,AI (ext3I h) ?_⟩
   cases sE q
   refine E4 [] (R5 (AI TV TV))
  cases sE q
  refine E4 [] (R5 (AI TV TV))
 refine AI (OL ?_) TV
 obtain ⟨r9,h,q⟩:=bE q
 refine OL (cA H52 (z6.2,z6.1,(!((decide (a<0))==(decide (b<0))))) h rfl (R3 (K0 ?_)))
 cases sE q
 refine AI rfl (E4 [] (R2 (AI TV TV)))
theorem H34:HI C34 34:=hI Tryz.f34 rfl fun x=>V34 x.1 x.2
def f153_34_j3 (a b:Al):Option Bool:=
 Ac (f119 (a.1,a.2)) fun r9=>
 bif (!r9) then
 some true
 else
 Ac (f119 (b.1,b.2)) fun r10=>
 some (!r10)
def f153_34_j2 (a b:Al):Option (Sum Unit Unit):=
 Ac (f153_34_j3 a b) fun z8=>
 bif z8 then
 some (Sum.inr ())
 else
 some (Sum.inl ())
def f153_34_l4 (a b:Al) (r12:Bl) (q7_3 q7_7:LI) (go:Bc→Option LI) (v52:Int) (l7:LI):Option LI:=
 bif (decide (v52<r12.2.2.length)) then
 Ad (0≤v52∧v52<q7_3.length)<|
 Ad (0≤(rd 0 q7_3 v52)∧(rd 0 q7_3 v52)<a.2.length)<|
 Ad (0≤v52∧v52<q7_7.length)<|
 Ad (0≤(rd 0 q7_7 v52)∧(rd 0 q7_7 v52)<b.2.length)<|
 Ac (f34 (rd 0 a.2 (rd 0 q7_3 v52)) (rd 0 b.2 (rd 0 q7_7 v52))) fun q11_20=>
 Ad (0≤v52∧v52<l7.length)<|
 go ((i64.wrap (v52+1)),(List.set l7 (Int.toNat v52) q11_20))
 else
 some l7
def f153_34 (a b:Al):Option Bl:=
 Ac (f153_34_j2 a b) fun z5=>
 Ak z5 (fun z5a=>
 Ac (f179 a.1 b.1) fun r11=>
 bif (r11.1 != 0) then
 some (r11.1,[],[])
 else
 Ac (f75 r11.2 (0:Int)) fun r12=>
 Ac (f180 a.1 r11.2) fun q7_3=>
 Ac (f180 b.1 r11.2) fun q7_7=>
 Ac (Ag (fun go x=>f153_34_l4 a b r12 q7_3 q7_7 go x.1 x.2) Ah ((0:Int),r12.2.2)) fun z13=>
 some ((0:Int),r12.2.1,z13)) (fun z5b=>
 some ((1:Int),[],[]))
def C153_34:Con:=⟨Al×Al,Bl,0,fun x=>[.dat T8 x.1,.dat T8 x.2,.raw false [(.c (.func (.func 34) #[] #[]))]],NX,fun x=>f153_34 x.1 x.2,fun y=>[.raw true [(.osl 0),(.osl 1)],.dat T0 y.1],fun y=>[(0,.arr 3 T0 y.2.1),(1,.arr 26 T0 y.2.2)],2⟩
theorem V153_34 a b y (q:f153_34 a b=some y):VC Tryz.f153 C153_34 (a,b) y:=by
 unfold f153_34 at q
 refine OL ?_
 obtain ⟨z5,hz5,q⟩:=bE q
 let e0:LE:=fun zz=>(2,.raw false [(.c (.func (.func 34) #[] #[]))])::(3,P0 0 0)::(4,P0 1 0)::(6,P0 2 0)::zz
 let h1:LH:=fun zz=>(0,.cells [(.d T5 a.1),(.d T5 a.2)])::(1,.cells [(.d T5 b.1),(.d T5 b.2)])::(2,.cells [N0,N0])::zz
 refine OQ ⟨Sum.elim (fun z5a=>[(0,⟨e0 [],h1 [],3⟩)]) (fun z5b=>[(1,⟨[(6,P0 0 0),(7,D0 1)],[(0,.cells [N0,N0])],1⟩)]) z5,?_,?_⟩
 ·have q:=hz5
  clear hz5
  unfold f153_34_j2 at q
  obtain ⟨z8,hz8,q⟩:=bE q
  refine OQ ⟨[(0,⟨e0 [(22,.dat .bool z8)],h1 [],3⟩)],?_,?_⟩
  ·have q:=hz8
   clear hz8
   unfold f153_34_j3 at q
   obtain ⟨r9,h,q⟩:=bE q
   refine OL (cA H119 (a.1,a.2) h rfl (R2 (K0 (cN q (fun q=>?_) (fun q=>?_)))))
   ·refine gY ?_
    obtain ⟨r10,h,q⟩:=bE q
    refine OL (cA H119 (b.1,b.2) h rfl (R2 (K0 (gY (cF ?_)))))
    cases sE q
    refine E4 I3 (R2 (AI (R4 TV) (R3 TV)))
   refine gN (gN (cT ?_))
   cases sE q
   refine E4 I3 (R2 (AI (R4 TV) (R3 TV)))
  refine AI (cI q (fun q=>?_) (fun q=>?_)) TV
  ·refine OL (OL ?_)
   cases sE q
   refine E4 (iuR [3]) (R2 (AJ (AI rfl TV)))
  cases sE q
  refine E4 I3 (AI rfl (AI (R4 TV) (R3 TV)))
 rcases z5 with z5a | z5b
 ·dsimp only [Ak] at q
  refine AI (OL ?_) TV
  obtain ⟨r11,h,q⟩:=bE q
  refine OL (cA H179 (a.1,b.1) h rfl (R2 (K0 (OL (OL (cI q (fun q=>?_) (fun q=>?_)))))))
  ·refine OL (OL ?_)
   cases sE q
   refine AI rfl (E4 (iuR [0,0]) (R2 (AJ (R2 TV))))
  refine OL ?_
  obtain ⟨r12,h,q⟩:=bE q
  refine OL (cD H75 (r11.2,(0:Int)) h rfl (R2 (AI (fun _=>rfl) (R2 (AI TV (AI TV (OL (OL (EI (tU 0 3 (tU 4 3 (.alt 3 (.alt 7 (.take 8 (.take 9 .done)) .done) .done))) (EI [] (EI [] (AI rfl (AI TV ?_)))))))))))))
  obtain ⟨q7_3,h,q⟩:=bE q
  refine OL (cD H180 (a.1,r11.2) h rfl (R2 (AI (fun _=>rfl) (R2 (AI TV (AI TV (AI TV ?_)))))))
  obtain ⟨q7_7,h,q⟩:=bE q
  refine OL (cD H180 (b.1,r11.2) h rfl (R2 (AI (fun _=>rfl) (R2 (AI TV (AI TV (OL (OL ?_))))))))
  obtain ⟨z13,h,q⟩:=bE q
  refine lJ h (fun x=>⟨e0 [(10,P0 3 0),(12,O0 4),(13,O0 5),(51,.dat T0 (r12.2.2.length:Int)),(52,.dat T0 x.1)],h1 [(3,.cells [(.osl 6),(.osl 7)]),(4,.arr 3 T0 q7_3),(5,.arr 3 T0 q7_7),(6,.arr 3 T0 r12.2.1),(7,.arr 26 T0 x.2)],8⟩) (fun z=>[(2,⟨[(6,P0 0 0),(10,P0 1 0)],[(0,.cells [N0,N0]),(1,.cells [(.osl 2),(.osl 3)]),(2,.arr 3 T0 r12.2.1),(3,.arr 26 T0 z)],4⟩)]) (E4 (iuR [1,2,3,7,8,9,5,6]) (R3 (AI (R7 TV) (R8 TV)))) (fun m=>An (fun v52=>fun l7 z q=>?_)) ?_
  ·have q:f153_34_l4 a b r12 q7_3 q7_7 _ v52 l7=some z:=q
   unfold f153_34_l4 at q
   refine OL (OL (cI q (fun q=>?_) (fun q=>?_)))
   ·refine OL (OL (EI (tU 0 20 (.alt 20 (.take 21 (.alt 22 .done .done)) .done)) (EI [] (EI [] (AI rfl (gI q (fun q=>?_)))))))
    refine gI q (fun q=>?_)
    refine gI q (fun q=>?_)
    refine gI q (fun q=>?_)
    refine AI TV ?_
    obtain ⟨q11_20,h,q⟩:=bE q
    refine OL (cA H34 ((rd 0 a.2 (rd 0 q7_3 v52)),(rd 0 b.2 (rd 0 q7_7 v52))) h rfl (R2 (K0 (gI q (fun q=>?_)))))
    refine AI TV (OL (EI ((i64.wrap (v52+1)),(List.set l7 (Int.toNat v52) q11_20)) (AI q (E4 I8 (R3 (AI (R7 TV) (R8 TV)))))))
   cases sE q
   refine E4 (iuR [3,4,7,8]) (AI rfl (AI (R2 TV) (R4 TV)))
  refine AI (OL (OL ?_)) TV
  cases sE q
  refine AI rfl (E4 (iuR [3,4]) (R2 (AJ (R2 TV))))
 dsimp only [Ak] at q
 refine AI ?_ TV
 cases sE q
 refine AI rfl (E4 (iuR [0,0]) (R2 (AJ (R2 TV))))
theorem C153_34_holds:HP C153_34 153:=hH Tryz.f153 (by kernel_rfl) rfl (fun x y q=>V153_34 x.1 x.2 y q)
theorem f153_34_in : ∃ fn,Tryz.prog.funcs[153]? = some fn ∧ fn.body.isSome = true ∧ (fn.name == "runtime.NumGoroutine") = false := ⟨Tryz.f153,by kernel_rfl,by kernel_rfl,by kernel_rfl⟩
def f142 (a b:Al):Option Bl:=
 Ac (f153_34 (a.1,a.2) (b.1,b.2)) fun r1=>
 some (r1.1,r1.2.1,r1.2.2)
def C142:Con:=⟨Al×Al,Bl,0,fun x=>[.dat T8 x.1,.dat T8 x.2],NX,fun x=>f142 x.1 x.2,fun y=>[.raw true [(.osl 0),(.osl 1)],.dat T0 y.1],fun y=>[(0,.arr 3 T0 y.2.1),(1,.arr 26 T0 y.2.2)],2⟩
theorem V142 a b y (q:f142 a b=some y):VC Tryz.f142 C142 (a,b) y:=by
 unfold f142 at q
 refine OL (OL ?_)
 obtain ⟨r1,h,q⟩:=bE q
 refine OL (AI f153_34_in (cV (cQ C153_34 ((a.1,a.2),(b.1,b.2)) r1 [] false C153_34_holds h rfl rfl (R4 (AI NH (R2 (AJ (AI TV (OL ?_)))))))))
 cases sE q
 refine AI rfl (E4 (iuR [4,5]) (R2 (AJ (R2 TV))))
theorem H142:HI C142 142:=hI Tryz.f142 rfl fun x=>V142 x.1 x.2
def f184_j1 (d:LI) (at_:Int):Option (Sum Unit Unit):=
 bif (decide (at_<0)) then
 some (Sum.inr ())
 else
 Ac (f116 d) fun r3=>
 bif (decide (at_≥r3)) then
 some (Sum.inr ())
 else
 some (Sum.inl ())
def f184_l2 (d:LI) (go:(Int×Bc)→Option LI) (at__2 i:Int) (l0:LI):Option LI:=
 bif (decide (i≥0)) then
 Ad (0≤i∧i<d.length)<|
 Ad ((rd 0 d i)≠0)<|
 Ad (0≤i∧i<l0.length)<|
 Ad (0≤i∧i<d.length)<|
 Ad ((rd 0 d i)≠0)<|
 go ((i64.wrap (Int.tdiv at__2 (rd 0 d i))),(i64.wrap (i-1)),(List.set l0 (Int.toNat i) (Int.tmod at__2 (rd 0 d i))))
 else
 some l0
def f184 (d:LI) (at_:Int):Option (Bool×LI):=
 Ac (f184_j1 d at_) fun z2=>
 Ak z2 (fun z2a=>
 Ad (0≤(d.length:Int)∧(d.length:Int)≤d.length∧Int.toNat (d.length:Int)*8≤140737488355328)<|
 Ac (Ag (fun go x=>f184_l2 d go x.1 x.2.1 x.2.2) Ah (at_,(i64.wrap ((d.length:Int)-1)),(List.replicate (Int.toNat (d.length:Int)) (0:Int)))) fun z4=>
 some (true,z4)) (fun z2b=>
 some (false,[]))
def C184:Con:=⟨LI×Int,Bool×LI,0,fun x=>[.dat T5 x.1,.dat T0 x.2],NX,fun x=>f184 x.1 x.2,fun y=>[O0 0,.dat .bool y.1],fun y=>[(0,.arr 3 T0 y.2)],1⟩
theorem V184 d at_ y (q:f184 d at_=some y):VC Tryz.f184 C184 (d,at_) y:=by
 unfold f184 at q
 refine OL ?_
 obtain ⟨z2,hz2,q⟩:=bE q
 refine OQ ⟨Sum.elim (fun z2a=>[(0,⟨[(0,.dat T5 d),(1,.dat T0 at_)],[],0⟩)]) (fun z2b=>[(1,⟨[(4,.raw false [N0]),(5,.dat .bool false)],[],0⟩)]) z2,?_,?_⟩
 ·have q:=hz2
  clear hz2
  unfold f184_j1 at q
  refine OL (cN q (fun q=>?_) (fun q=>?_))
  ·refine gY (gY ?_)
   obtain ⟨r3,h,q⟩:=bE q
   refine OL (cA H116 d h rfl (AI rfl (K0 (gY (cF (cI q (fun q=>?_) (fun q=>?_)))))))
   ·cases sE q
    refine OL (E4 [] (R2 (AJ TV)))
   cases sE q
   refine E4 [] (R3 (AI TV TV))
  refine gN (gN (gN (cT (cT (OL ?_)))))
  cases sE q
  refine E4 [] (R2 (AJ TV))
 rcases z2 with z2a | z2b
 ·dsimp only [Ak] at q
  refine AI (OL (gI q (fun q=>?_))) TV
  refine OL (OL ?_)
  obtain ⟨z4,h,q⟩:=bE q
  refine lJ h (fun x=>⟨[(0,.dat T5 d),(1,.dat T0 x.1),(6,O0 0),(7,.dat T0 x.2.1)],[(0,.arr 3 T0 x.2.2)],1⟩) (fun z=>[(2,⟨[(6,O0 0)],[(0,.arr 3 T0 z)],1⟩)]) (E4 (iuR [1]) (R4 (AJ (AI rfl TV)))) (fun m=>An (fun at__2=>An (fun i=>fun l0 z q=>?_))) ?_
  ·have q:f184_l2 d _ at__2 i l0=some z:=q
   unfold f184_l2 at q
   refine OL (OL (cI q (fun q=>?_) (fun q=>?_)))
   ·refine OL (OL (gI q (fun q=>?_)))
    refine gI q (fun q=>?_)
    refine gI q (fun q=>?_)
    refine OL (gI q (fun q=>?_))
    refine gI q (fun q=>?_)
    refine EI ((i64.wrap (Int.tdiv at__2 (rd 0 d i))),(i64.wrap (i-1)),(List.set l0 (Int.toNat i) (Int.tmod at__2 (rd 0 d i)))) (AI q (E4 (iuR [1]) (R4 (AJ (AI rfl TV)))))
   cases sE q
   refine E4 (iuR [1]) (AI rfl (AJ (AI rfl TV)))
  refine AI (OL ?_) TV
  cases sE q
  refine AI rfl (E4 (iuR [1]) (R2 (AJ (AI rfl TV))))
 dsimp only [Ak] at q
 refine AI ?_ TV
 cases sE q
 refine AI rfl (E4 (iuR [0]) (R2 (AJ (AI rfl TV))))
theorem H184:HI C184 184:=hI Tryz.f184 rfl fun x=>V184 x.1 x.2
def f185_j1 (d place_:LI):Option (Sum Unit Unit):=
 Ac (f67 d) fun r3=>
 bif (!r3) then
 some (Sum.inr ())
 else
 bif ((place_.length:Int) != d.length) then
 some (Sum.inr ())
 else
 some (Sum.inl ())
def f185_j5 (d place_:LI) (v21:Int):Option (Sum Unit Unit):=
 bif (decide ((rd 0 place_ v21)<0)) then
 some (Sum.inr ())
 else
 Ad (0≤v21∧v21<d.length)<|
 bif (decide ((rd 0 place_ v21)≥(rd 0 d v21))) then
 some (Sum.inr ())
 else
 some (Sum.inl ())
def f185_l4 (d place_:LI) (go:Ax→Option (Sum Unit Int)) (at_ v21:Int):Option (Sum Unit Int):=
 bif (decide (v21<place_.length)) then
 Ad (0≤v21∧v21<place_.length)<|
 Ac (f185_j5 d place_ v21) fun z7=>
 Ak z7 (fun z7a=>
 Ad (0≤v21∧v21<d.length)<|
 go ((i64.wrap ((i64.wrap (at_*(rd 0 d v21)))+(rd 0 place_ v21))),(i64.wrap (v21+1)))) (fun z7b=>
 some (Sum.inl ()))
 else
 some (Sum.inr at_)
def f185 (d place_:LI):Option Ea:=
 Ac (f185_j1 d place_) fun z2=>
 Ak z2 (fun z2a=>
 Ac (Ag (fun go x=>f185_l4 d place_ go x.1 x.2) Ah ((0:Int),(0:Int))) fun z6=>
 Ak z6 (fun z6a=>
 some ((0:Int),false)) (fun z6b=>
 some (z6b,true))) (fun z2b=>
 some ((0:Int),false))
def C185:Con:=⟨Al,Ea,0,fun x=>[.dat T5 x.1,.dat T5 x.2],NX,fun x=>f185 x.1 x.2,fun y=>[.dat T0 y.1,.dat .bool y.2],NX,0⟩
theorem V185 d place_ y (q:f185 d place_=some y):VC Tryz.f185 C185 (d,place_) y:=by
 unfold f185 at q
 refine OL ?_
 obtain ⟨z2,hz2,q⟩:=bE q
 refine OQ ⟨Sum.elim (fun z2a=>[(0,⟨[(0,.dat T5 d),(1,.dat T5 place_)],[],0⟩)]) (fun z2b=>[(1,⟨[(4,D0 0),(5,.dat .bool false)],[],0⟩)]) z2,?_,?_⟩
 ·have q:=hz2
  clear hz2
  unfold f185_j1 at q
  refine OL ?_
  obtain ⟨r3,h,q⟩:=bE q
  refine OL (cA H67 d h rfl (AI rfl (K0 (cN q (fun q=>?_) (fun q=>?_)))))
  ·refine gY (gY (gY (gY (cF (cI q (fun q=>?_) (fun q=>?_))))))
   ·cases sE q
    refine OL (E4 [] (R3 (AI TV TV)))
   cases sE q
   refine E4 [] (R3 (AI TV TV))
  refine gN (gN (gN (gN (cT (cT (OL ?_))))))
  cases sE q
  refine E4 [] (R3 (AI TV TV))
 rcases z2 with z2a | z2b
 ·dsimp only [Ak] at q
  refine AI (OL (OL (OL ?_))) TV
  obtain ⟨z6,h,q⟩:=bE q
  refine lJ h (fun x=>⟨[(0,.dat T5 d),(6,.dat T0 x.1),(19,.dat T5 place_),(20,.dat T0 (place_.length:Int)),(21,.dat T0 x.2)],[],0⟩) (fun z=>Sum.elim (fun za=>[(1,⟨[(4,D0 0),(5,.dat .bool false)],[],0⟩)]) (fun zb=>[(2,⟨[(6,.dat T0 zb)],[],0⟩)]) z) (E4 [] (R6 (AI TV TV))) (fun m=>An (fun at_=>fun v21 z q=>?_)) ?_
  ·have q:f185_l4 d place_ _ at_ v21=some z:=q
   unfold f185_l4 at q
   refine OL (OL (cI q (fun q=>?_) (fun q=>?_)))
   ·refine OL (OL (gI q (fun q=>?_)))
    obtain ⟨z7,hz7,q⟩:=bE q
    refine OQ ⟨Sum.elim (fun z7a=>[(0,⟨[(0,.dat T5 d),(6,.dat T0 at_),(7,.dat T0 v21),(8,.dat T0 (rd 0 place_ v21)),(19,.dat T5 place_),(20,.dat T0 (place_.length:Int)),(21,.dat T0 v21)],[],0⟩)]) (fun z7b=>[(1,⟨[(4,D0 0),(5,.dat .bool false)],[],0⟩)]) z7,?_,?_⟩
    ·have q:=hz7
     clear hz7
     unfold f185_j5 at q
     refine OL (cN q (fun q=>?_) (fun q=>?_))
     ·refine gY (gY (gY (gI q (fun q=>?_))))
      refine gY (gY (cF (cI q (fun q=>?_) (fun q=>?_))))
      ·cases sE q
       refine OL (E4 [] (R3 (AI TV TV)))
      cases sE q
      refine E4 [] (R8 (AI TV TV))
     refine gN (gN (gN (gN (gN (cT (cT (OL ?_)))))))
     cases sE q
     refine E4 [] (R3 (AI TV TV))
    rcases z7 with z7a | z7b
    ·dsimp only [Ak] at q
     refine AI (gI q (fun q=>?_)) TV
     refine EI ((i64.wrap ((i64.wrap (at_*(rd 0 d v21)))+(rd 0 place_ v21))),(i64.wrap (v21+1))) (AI q (E4 [] (R6 (AI TV TV))))
    dsimp only [Ak] at q
    refine AI ?_ TV
    cases sE q
    refine E4 [] (R3 (AI TV TV))
   cases sE q
   refine E4 [] (R2 (AI TV TV))
  rcases z6 with z6a | z6b
  ·dsimp only [Ak] at q
   refine AI ?_ TV
   cases sE q
   refine AI rfl (E4 [] (R3 (AI TV TV)))
  dsimp only [Ak] at q
  refine AI (OL ?_) TV
  cases sE q
  refine AI rfl (E4 [] (R3 (AI TV TV)))
 dsimp only [Ak] at q
 refine AI ?_ TV
 cases sE q
 refine AI rfl (E4 [] (R3 (AI TV TV)))
theorem H185:HI C185 185:=hI Tryz.f185 rfl fun x=>V185 x.1 x.2
def f146 (a:Al):Option Bl:=
 none
def C146:Con:=⟨Al,Bl,0,fun x=>[.dat T8 x],NX,fun x=>f146 x,fun y=>[.raw true [(.osl 0),(.osl 1)],.dat T0 y.1],fun y=>[(0,.arr 3 T0 y.2.1),(1,.arr 26 T0 y.2.2)],2⟩
theorem V146 a y (q:f146 a=some y):VC Tryz.f146 C146 a y:=by
 unfold f146 at q
 exact nomatch q
theorem H146:HI C146 146:=hI Tryz.f146 rfl fun x=>V146 x
def f82 (v:Int):Option Int:=
 bif (decide (v<0)) then
 some (u64.wrap (0-(u64.wrap v)))
 else
 some (u64.wrap v)
def C82:Con:=⟨Int,Int,0,fun x=>[.dat T0 x],NX,fun x=>f82 x,fun y=>[.dat T9 y],NX,0⟩
theorem V82 v y (q:f82 v=some y):VC Tryz.f82 C82 v y:=by
 unfold f82 at q
 refine OL (OL (OL (cI q (fun q=>?_) (fun q=>?_))))
 ·cases sE q
  refine OL (AI rfl (E4 [] (R2 (AI TV TV))))
 cases sE q
 refine OL (AI rfl (E4 [] (R2 (AI TV TV))))
theorem H82:HI C82 82:=hI Tryz.f82 rfl fun x=>V82 x
def f125 (a b:Ax):Option Ax:=
 Ac (sub64 a.2 b.2 (0:Int)) fun r1=>
 Ac (sub64 (u64.wrap a.1) (u64.wrap b.1) r1.2) fun r2=>
 some ((i64.wrap r2.1),r1.1)
def C125:Con:=⟨Ax×Ax,Ax,0,fun x=>[.dat T10 x.1,.dat T10 x.2],NX,fun x=>f125 x.1 x.2,fun y=>[.raw true [(.d T0 y.1),(.d T9 y.2)]],NX,0⟩
theorem V125 a b y (q:f125 a b=some y):VC Tryz.f125 C125 (a,b) y:=by
 unfold f125 at q
 refine OL (OL ?_)
 obtain ⟨r1,h,q⟩:=bE q
 refine OQ ⟨ext3 sub64,[r1.1,r1.2],sub64_ok,AI (ext3I h) ?_⟩
 refine OL ?_
 obtain ⟨r2,h,q⟩:=bE q
 refine OQ ⟨ext3 sub64,[r2.1,r2.2],sub64_ok,AI (ext3I h) ?_⟩
 refine OL (OL ?_)
 cases sE q
 refine AI rfl (E4 [] (AI rfl (AJ TV)))
theorem H125:HI C125 125:=hI Tryz.f125 rfl fun x=>V125 x.1 x.2
def f85 (a:Ax):Option Ax:=
 Ac (f125 ((0:Int),(0:Int)) (a.1,a.2)) fun r1=>
 some (r1.1,r1.2)
def C85:Con:=⟨Ax,Ax,0,fun x=>[.dat T10 x],NX,fun x=>f85 x,fun y=>[.raw true [(.d T0 y.1),(.d T9 y.2)]],NX,0⟩
theorem V85 a y (q:f85 a=some y):VC Tryz.f85 C85 a y:=by
 unfold f85 at q
 refine OL (OL ?_)
 obtain ⟨r1,h,q⟩:=bE q
 refine OL (cA H125 (((0:Int),(0:Int)),(a.1,a.2)) h rfl (R4 (K0 (OL ?_))))
 cases sE q
 refine AI rfl (E4 [] (AI rfl (AJ TV)))
theorem H85:HI C85 85:=hI Tryz.f85 rfl fun x=>V85 x
def f219 (a b:Int):Option Ax:=
 Ac (f82 a) fun r1=>
 Ac (f82 b) fun r2=>
 Ac (f50 r1 r2) fun r3=>
 bif (!((decide (a<0))==(decide (b<0)))) then
 Ac (f85 ((i64.wrap r3.1),r3.2)) fun r4=>
 some (r4.1,r4.2)
 else
 some ((i64.wrap r3.1),r3.2)
def C219:Con:=⟨Ax,Ax,0,fun x=>[.dat T0 x.1,.dat T0 x.2],NX,fun x=>f219 x.1 x.2,fun y=>[.raw true [(.d T0 y.1),(.d T9 y.2)]],NX,0⟩
theorem V219 a b y (q:f219 a b=some y):VC Tryz.f219 C219 (a,b) y:=by
 unfold f219 at q
 refine OL (OL ?_)
 obtain ⟨r1,h,q⟩:=bE q
 refine OL (cA H82 a h rfl (AI rfl (K0 ?_)))
 obtain ⟨r2,h,q⟩:=bE q
 refine OL (cA H82 b h rfl (AI rfl (K0 ?_)))
 obtain ⟨r3,h,q⟩:=bE q
 refine OL (cA H50 (r1,r2) h rfl (R2 (K0 (OL (OL (OL (OL (cI q (fun q=>?_) (fun q=>?_)))))))))
 ·refine OL ?_
  obtain ⟨r4,h,q⟩:=bE q
  refine OL (cA H85 ((i64.wrap r3.1),r3.2) h rfl (R2 (K0 (OL ?_))))
  cases sE q
  refine AI rfl (E4 [] (AI rfl (AJ TV)))
 refine OL (OL ?_)
 cases sE q
 refine AI rfl (E4 [] (AI rfl (AJ TV)))
theorem H219:HI C219 219:=hI Tryz.f219 rfl fun x=>V219 x.1 x.2
def f192 (s_top s_low_Hi s_low_Lo a b:Int):Option Bw:=
 Ac (f219 a b) fun q4_13=>
 Ac (Es s_low_Lo q4_13.2 (0:Int)) fun q1_7=>
 Ac (Es (u64.wrap s_low_Hi) (u64.wrap q4_13.1) q1_7.2) fun q2_10=>
 some ((i64.wrap (s_top+(i64.wrap ((Int.fdiv q4_13.1 (2 ^ min (Int.toNat (63:Int)) i64.bits))+(i64.wrap q2_10.2))))),(i64.wrap q2_10.1),q1_7.1)
def C192:Con:=⟨PTz22,Bw,1,fun x=>[P0 0 0,.dat T0 x.2.2.2.1,.dat T0 x.2.2.2.2],fun x=>[(0,.cells [(.d T0 x.1),(.d T0 x.2.1),(.d T9 x.2.2.1)])],fun x=>f192 x.1 x.2.1 x.2.2.1 x.2.2.2.1 x.2.2.2.2,fun y=>[],fun y=>[(0,.cells [(.d T0 y.1),(.d T0 y.2.1),(.d T9 y.2.2)])],1⟩
theorem V192 s_top s_low_Hi s_low_Lo a b y (q:f192 s_top s_low_Hi s_low_Lo a b=some y):VE Tryz.f192 1 C192 (s_top,s_low_Hi,s_low_Lo,a,b) y:=by
 unfold f192 at q
 refine OL ?_
 obtain ⟨q4_13,h,q⟩:=bE q
 refine OL (cA H219 (a,b) h rfl (R2 (K0 (OL (OL (EI (tU 0 7 (.alt 7 (tU 8 5 .done) .done)) (EI [] (EI [] (AI rfl (AI TV ?_))))))))))
 obtain ⟨q1_7,h,q⟩:=bE q
 refine OQ ⟨ext3 Es,[q1_7.1,q1_7.2],Er,AI (ext3I h) ?_⟩
 refine OL (EI (tU 0 10 (.alt 10 (tU 11 5 .done) .done)) (EI [] (EI [] (AI rfl (AI TV ?_)))))
 obtain ⟨q2_10,h,q⟩:=bE q
 refine OQ ⟨ext3 Es,[q2_10.1,q2_10.2],Er,AI (ext3I h) ?_⟩
 refine OL (OL (EI (tU 0 13 (.alt 13 .done .done)) (EI [(13,[0])] (EI [] (AI rfl (AI (by decide) (AI TV (OL ?_))))))))
 cases sE q
 refine AI rfl (E4 (iuR [1]) (AI rfl (AI TV (AI rfl TV))))
theorem H192:HI C192 192:=hI Tryz.f192 rfl fun x=>V192 x.1 x.2.1 x.2.2.1 x.2.2.2.1 x.2.2.2.2
def f226 (a:Ax) (n:Int):Option PTz7:=
 bif (decide (n≥64)) then
 Ad (0≤(i64.wrap (n-64)))<|
 Ad (0≤(i64.wrap ((64:Int)-(i64.wrap (n-64)))))<|
 Ad (0≤(i64.wrap (n-64)))<|
 Ad (0≤(i64.wrap ((64:Int)-(i64.wrap (n-64)))))<|
 some ((Int.fdiv a.1 (2 ^ min (Int.toNat (63:Int)) i64.bits)),(u64.wrap (Int.fdiv a.1 (2 ^ min (Int.toNat (i64.wrap (n-64))) i64.bits))),(Af IntKind.u64 (fun p q=>p||| q) (u64.wrap ((u64.wrap a.1)*2 ^ min (Int.toNat (i64.wrap ((64:Int)-(i64.wrap (n-64))))) u64.bits)) (Int.fdiv a.2 (2 ^ min (Int.toNat (i64.wrap (n-64))) u64.bits))),(u64.wrap (a.2*2 ^ min (Int.toNat (i64.wrap ((64:Int)-(i64.wrap (n-64))))) u64.bits)))
 else
 Ad (0≤n)<|
 Ad (0≤(i64.wrap ((64:Int)-n)))<|
 Ad (0≤n)<|
 Ad (0≤(i64.wrap ((64:Int)-n)))<|
 some ((Int.fdiv a.1 (2 ^ min (Int.toNat n) i64.bits)),(Af IntKind.u64 (fun p q=>p||| q) (u64.wrap ((u64.wrap a.1)*2 ^ min (Int.toNat (i64.wrap ((64:Int)-n))) u64.bits)) (Int.fdiv a.2 (2 ^ min (Int.toNat n) u64.bits))),(u64.wrap (a.2*2 ^ min (Int.toNat (i64.wrap ((64:Int)-n))) u64.bits)),(0:Int))
def C226:Con:=⟨Ax×Int,PTz7,0,fun x=>[.dat T10 x.1,.dat T0 x.2],NX,fun x=>f226 x.1 x.2,fun y=>[.raw true [(.d T0 y.1),(.d T9 y.2.1)],.dat T9 y.2.2.1,.dat T9 y.2.2.2],NX,0⟩
theorem V226 a n y (q:f226 a n=some y):VC Tryz.f226 C226 (a,n) y:=by
 unfold f226 at q
 refine OL (OL (EI (tU 0 7 .done) (EI [] (EI [] (AI rfl (OL (OL (cI q (fun q=>?_) (fun q=>?_)))))))))
 ·refine OL (OL (EI (tU 0 9 (.alt 9 (.alt 10 .done .done) .done)) (EI [] (EI [] (AI rfl (AI (by decide) (gI q (fun q=>?_))))))))
  refine AI TV (AI TV (OL (OL (EI (tU 0 13 (.alt 13 (.take 14 (.take 15 .done)) .done)) (EI [] (EI [] (AI rfl (gI q (fun q=>?_)))))))))
  refine gI q (fun q=>?_)
  refine gI q (fun q=>?_)
  refine AI TV (OL ?_)
  cases sE q
  refine AI rfl (E4 [] (R3 (AJ TV)))
 refine OL (EI (tU 0 17 (.alt 17 (.take 18 (.take 19 .done)) .done)) (EI [] (EI [] (AI rfl (gI q (fun q=>?_))))))
 refine gI q (fun q=>?_)
 refine gI q (fun q=>?_)
 refine gI q (fun q=>?_)
 refine AI TV (OL ?_)
 cases sE q
 refine AI rfl (E4 [] (R3 (AJ TV)))
theorem H226:HI C226 226:=hI Tryz.f226 rfl fun x=>V226 x.1 x.2
def f32 (n:Int):Option Ax:=
 some ((Int.fdiv n (2 ^ min (Int.toNat (63:Int)) i64.bits)),(u64.wrap n))
def C32:Con:=⟨Int,Ax,0,fun x=>[.dat T0 x],NX,fun x=>f32 x,fun y=>[.raw true [(.d T0 y.1),(.d T9 y.2)]],NX,0⟩
theorem V32 n y (q:f32 n=some y):VC Tryz.f32 C32 n y:=by
 unfold f32 at q
 refine OL (OL (AI (by decide) (OL ?_)))
 cases sE q
 refine AI rfl (E4 [] (AI rfl (AJ TV)))
theorem H32:HI C32 32:=hI Tryz.f32 rfl fun x=>V32 x
def f31 (a b:Ax):Option Ax:=
 Ac (Es a.2 b.2 (0:Int)) fun r1=>
 Ac (Es (u64.wrap a.1) (u64.wrap b.1) r1.2) fun r2=>
 some ((i64.wrap r2.1),r1.1)
def C31:Con:=⟨Ax×Ax,Ax,0,fun x=>[.dat T10 x.1,.dat T10 x.2],NX,fun x=>f31 x.1 x.2,fun y=>[.raw true [(.d T0 y.1),(.d T9 y.2)]],NX,0⟩
theorem V31 a b y (q:f31 a b=some y):VC Tryz.f31 C31 (a,b) y:=by
 unfold f31 at q
 refine OL (OL ?_)
 obtain ⟨r1,h,q⟩:=bE q
 refine OQ ⟨ext3 Es,[r1.1,r1.2],Er,AI (ext3I h) ?_⟩
 refine OL ?_
 obtain ⟨r2,h,q⟩:=bE q
 refine OQ ⟨ext3 Es,[r2.1,r2.2],Er,AI (ext3I h) ?_⟩
 refine OL (OL ?_)
 cases sE q
 refine AI rfl (E4 [] (AI rfl (AJ TV)))
theorem H31:HI C31 31:=hI Tryz.f31 rfl fun x=>V31 x.1 x.2
def f220_j1 (n:Int):Option (Sum Unit Unit):=
 bif (decide (n<1)) then
 some (Sum.inr ())
 else
 bif (decide (n>126)) then
 some (Sum.inr ())
 else
 some (Sum.inl ())
def f220_j2 (q5_3:PTz7):Option Bool:=
 bif (decide (q5_3.2.2.1>9223372036854775808)) then
 some true
 else
 bif (q5_3.2.2.1==9223372036854775808) then
 bif (decide (q5_3.2.2.2>0)) then
 some true
 else
 some ((Af IntKind.u64 (fun p q=>p&&& q) q5_3.2.1 (1:Int))==1)
 else
 some false
def f220 (a:Ax) (n:Int):Option Ax:=
 Ac (f220_j1 n) fun z1=>
 Ak z1 (fun z1a=>
 Ac (f226 (a.1,a.2) n) fun q5_3=>
 Ac (f220_j2 q5_3) fun z2=>
 bif z2 then
 Ac (f32 (1:Int)) fun q5_1=>
 Ac (f31 (q5_3.1,q5_3.2.1) (q5_1.1,q5_1.2)) fun q5_2=>
 some (q5_2.1,q5_2.2)
 else
 some (q5_3.1,q5_3.2.1)) (fun z1b=>
 some (a.1,a.2))
def C220:Con:=⟨Ax×Int,Ax,0,fun x=>[.dat T10 x.1,.dat T0 x.2],NX,fun x=>f220 x.1 x.2,fun y=>[.raw true [(.d T0 y.1),(.d T9 y.2)]],NX,0⟩
theorem V220 a n y (q:f220 a n=some y):VC Tryz.f220 C220 (a,n) y:=by
 unfold f220 at q
 refine OL ?_
 obtain ⟨z1,hz1,q⟩:=bE q
 refine OQ ⟨Sum.elim (fun z1a=>[(0,⟨[(1,.dat T0 n),(2,P0 0 0),(4,P0 1 0)],[(0,.cells [(.d T0 a.1),(.d T9 a.2)]),(1,.cells [(.d T0 (0:Int)),(.d T9 (0:Int))])],2⟩)]) (fun z1b=>[(1,⟨[(4,P0 0 0)],[(0,.cells [(.d T0 a.1),(.d T9 a.2)])],1⟩)]) z1,?_,?_⟩
 ·have q:=hz1
  clear hz1
  unfold f220_j1 at q
  refine OL (cN q (fun q=>?_) (fun q=>?_))
  ·refine gY (cF (cI q (fun q=>?_) (fun q=>?_)))
   ·refine OL (OL ?_)
    cases sE q
    refine E4 (iuR [2]) (AI rfl (AJ (AI rfl TV)))
   cases sE q
   refine E4 I2 (R2 (AI (R2 TV) (R2 TV)))
  refine gN (cT (cT (OL (OL ?_))))
  cases sE q
  refine E4 (iuR [2]) (AI rfl (AJ (AI rfl TV)))
 rcases z1 with z1a | z1b
 ·dsimp only [Ak] at q
  refine AI (OL ?_) TV
  obtain ⟨q5_3,h,q⟩:=bE q
  refine OL (cA H226 ((a.1,a.2),n) h rfl (R3 (K0 (OL (OL ?_)))))
  obtain ⟨z2,hz2,q⟩:=bE q
  refine OQ ⟨[(0,⟨[(4,P0 0 0),(5,P0 1 0),(37,.dat .bool z2)],[(0,.cells [(.d T0 (0:Int)),(.d T9 (0:Int))]),(1,.cells [(.d T0 q5_3.1),(.d T9 q5_3.2.1)])],2⟩)],?_,?_⟩
  ·have q:=hz2
   clear hz2
   unfold f220_j2 at q
   refine cN q (fun q=>?_) (fun q=>?_)
   ·refine gY (gY (cI q (fun q=>?_) (fun q=>?_)))
    ·refine gX (gX (cN q (fun q=>?_) (fun q=>?_)))
     ·refine gY (gY (gY (gX (cF (gY (cT (cF ?_)))))))
      cases sE q
      refine E4 (iuR [2,3]) (R2 (AI (R2 TV) (R2 TV)))
     refine gN (gN (gN (gX (cT (gY (cT (cF ?_)))))))
     cases sE q
     refine E4 (iuR [2,3]) (R2 (AI (R2 TV) (R2 TV)))
    refine gM (gM (gM (gY (cF (cF ?_)))))
    cases sE q
    refine E4 (iuR [2,3]) (R2 (AI (R2 TV) (R2 TV)))
   refine gN (gN (gN (cT ?_)))
   cases sE q
   refine E4 (iuR [2,3]) (R2 (AI (R2 TV) (R2 TV)))
  refine AI (cI q (fun q=>?_) (fun q=>?_)) TV
  ·refine OL (EI (.take 0 (.alt 1 (.alt 2 (.alt 3 .done .done) .done) .done)) (EI [] (EI [] (AI rfl (AI TV ?_)))))
   obtain ⟨q5_1,h,q⟩:=bE q
   refine OL (cA H32 (1:Int) h rfl (AI rfl (K0 (AI TV ?_))))
   obtain ⟨q5_2,h,q⟩:=bE q
   refine OL (cA H31 ((q5_3.1,q5_3.2.1),(q5_1.1,q5_1.2)) h rfl (R4 (K0 (AI TV (OL ?_)))))
   cases sE q
   refine AI rfl (E4 [] (AI rfl (AJ TV)))
  refine OL (OL ?_)
  cases sE q
  refine AI rfl (E4 [] (AI rfl (AJ TV)))
 dsimp only [Ak] at q
 refine AI ?_ TV
 cases sE q
 refine AI rfl (E4 [] (AI rfl (AJ TV)))
theorem H220:HI C220 220:=hI Tryz.f220 rfl fun x=>V220 x.1 x.2
def f84_j3 (a:Ax):Option Bool:=
 bif (decide (a.1>0)) then
 some true
 else
 bif (a.1==0) then
 some (decide (a.2≥9223372036854775808))
 else
 some false
def f84_j2 (a:Ax):Option (Sum Unit Int):=
 Ac (f84_j3 a) fun z3=>
 bif z3 then
 some (Sum.inr (9223372036854775807:Int))
 else
 bif (decide (a.1<(-1:Int))) then
 some (Sum.inr (-9223372036854775808:Int))
 else
 bif (a.1==(-1:Int)) then
 bif (decide (a.2<9223372036854775808)) then
 some (Sum.inr (-9223372036854775808:Int))
 else
 some (Sum.inl ())
 else
 some (Sum.inl ())
def f84 (a:Ax):Option Int:=
 Ac (f84_j2 a) fun z2=>
 Ak z2 (fun z2a=>
 some (i64.wrap a.2)) (fun z2b=>
 some z2b)
def C84:Con:=⟨Ax,Int,0,fun x=>[.dat T10 x],NX,fun x=>f84 x,fun y=>[.dat T0 y],NX,0⟩
theorem V84 a y (q:f84 a=some y):VC Tryz.f84 C84 a y:=by
 unfold f84 at q
 refine OL ?_
 obtain ⟨z2,hz2,q⟩:=bE q
 refine OQ ⟨Sum.elim (fun z2a=>[(0,⟨[(1,P0 0 0)],[(0,.cells [(.d T0 a.1),(.d T9 a.2)])],1⟩)]) (fun z2b=>[(1,⟨[(2,.dat T0 z2b)],[],0⟩)]) z2,?_,?_⟩
 ·have q:=hz2
  clear hz2
  unfold f84_j2 at q
  obtain ⟨z3,hz3,q⟩:=bE q
  refine OQ ⟨[(0,⟨[(1,P0 0 0),(3,.dat .bool z3)],[(0,.cells [(.d T0 a.1),(.d T9 a.2)])],1⟩)],?_,?_⟩
  ·have q:=hz3
   clear hz3
   unfold f84_j3 at q
   refine cN q (fun q=>?_) (fun q=>?_)
   ·refine gY (gY (gY (cI q (fun q=>?_) (fun q=>?_))))
    ·refine gX (gX (gY (cT (cF ?_))))
     cases sE q
     refine E4 (iuR [1]) (R2 (AJ (AI rfl TV)))
    refine gM (gM (gY (cF (cF ?_))))
    cases sE q
    refine E4 (iuR [1]) (R2 (AJ (AI rfl TV)))
   refine gN (gN (gN (gN (cT ?_))))
   cases sE q
   refine E4 (iuR [1]) (R2 (AJ (AI rfl TV)))
  refine AI (cI q (fun q=>?_) (fun q=>?_)) TV
  ·cases sE q
   refine OL (E4 [] (R2 (AI TV TV)))
  refine OL (cN q (fun q=>?_) (fun q=>?_))
  ·refine gY (gY (gY (cI q (fun q=>?_) (fun q=>?_))))
   ·refine gX (gX (gY (cT (cF (cI q (fun q=>?_) (fun q=>?_))))))
    ·cases sE q
     refine OL (E4 [] (R2 (AI TV TV)))
    cases sE q
    refine E4 (iuR [1]) (AI rfl (AJ (AI rfl TV)))
   refine gM (gM (gY (cF (cF (cF ?_)))))
   cases sE q
   refine E4 (iuR [1]) (AI rfl (AJ (AI rfl TV)))
  refine gN (gN (gN (gN (cT (cT (OL ?_))))))
  cases sE q
  refine E4 [] (R2 (AI TV TV))
 rcases z2 with z2a | z2b
 ·dsimp only [Ak] at q
  refine AI (OL ?_) TV
  cases sE q
  refine AI rfl (E4 [] (R2 (AI TV TV)))
 dsimp only [Ak] at q
 refine AI ?_ TV
 cases sE q
 refine AI rfl (E4 [] (R2 (AI TV TV)))
theorem H84:HI C84 84:=hI Tryz.f84 rfl fun x=>V84 x
def f193 (s_top s_low_Hi s_low_Lo n:Int):Option PTz7:=
 bif (s_top==(Int.fdiv s_low_Hi (2 ^ min (Int.toNat (63:Int)) i64.bits))) then
 Ac (f220 (s_low_Hi,s_low_Lo) n) fun q1_11=>
 Ac (f84 (q1_11.1,q1_11.2)) fun r1=>
 some (r1,s_top,s_low_Hi,s_low_Lo)
 else
 bif (decide (s_top<0)) then
 some ((-9223372036854775808:Int),s_top,s_low_Hi,s_low_Lo)
 else
 some ((9223372036854775807:Int),s_top,s_low_Hi,s_low_Lo)
def C193:Con:=⟨PTz7,PTz7,1,fun x=>[P0 0 0,.dat T0 x.2.2.2],fun x=>[(0,.cells [(.d T0 x.1),(.d T0 x.2.1),(.d T9 x.2.2.1)])],fun x=>f193 x.1 x.2.1 x.2.2.1 x.2.2.2,fun y=>[.dat T0 y.1],fun y=>[(0,.cells [(.d T0 y.2.1),(.d T0 y.2.2.1),(.d T9 y.2.2.2)])],1⟩
theorem V193 s_top s_low_Hi s_low_Lo n y (q:f193 s_top s_low_Hi s_low_Lo n=some y):VE Tryz.f193 1 C193 (s_top,s_low_Hi,s_low_Lo,n) y:=by
 unfold f193 at q
 refine OL (OL (OL (EI (tU 0 12 .done) (EI [] (EI [] (AI rfl (AI (by decide) (cI q (fun q=>?_) (fun q=>?_)))))))))
 ·refine OL ?_
  obtain ⟨q1_11,h,q⟩:=bE q
  refine OL (cA H220 ((s_low_Hi,s_low_Lo),n) h rfl (R3 (K0 ?_)))
  obtain ⟨r1,h,q⟩:=bE q
  refine OL (cA H84 (q1_11.1,q1_11.2) h rfl (R2 (K0 ?_)))
  cases sE q
  refine AI rfl (E4 (iuR [1]) (R2 (AI TV (AI rfl TV))))
 refine OL (cI q (fun q=>?_) (fun q=>?_))
 ·cases sE q
  refine OL (AI rfl (E4 (iuR [1]) (R2 (AI TV (AI rfl TV)))))
 cases sE q
 refine OL (AI rfl (E4 (iuR [1]) (R2 (AI TV (AI rfl TV)))))
theorem H193:HI C193 193:=hI Tryz.f193 rfl fun x=>V193 x.1 x.2.1 x.2.2.1 x.2.2.2
def f181 (a b:Al):Option Bl:=
 none
def C181:Con:=⟨Al×Al,Bl,0,fun x=>[.dat T8 x.1,.dat T8 x.2],NX,fun x=>f181 x.1 x.2,fun y=>[.raw true [(.osl 0),(.osl 1)],.dat T0 y.1],fun y=>[(0,.arr 3 T0 y.2.1),(1,.arr 26 T0 y.2.2)],2⟩
theorem V181 a b y (q:f181 a b=some y):VC Tryz.f181 C181 (a,b) y:=by
 unfold f181 at q
 exact nomatch q
theorem H181:HI C181 181:=hI Tryz.f181 rfl fun x=>V181 x.1 x.2
def f188 (step:Int):Option Bool:=
 bif (decide (step≥1)) then
 some (decide (step≤64))
 else
 some false
def C188:Con:=⟨Int,Bool,0,fun x=>[.dat T0 x],NX,fun x=>f188 x,fun y=>[.dat .bool y],NX,0⟩
theorem V188 step y (q:f188 step=some y):VC Tryz.f188 C188 step y:=by
 unfold f188 at q
 refine OL (OL (cI q (fun q=>?_) (fun q=>?_)))
 ·refine gX (cT ?_)
  cases sE q
  refine AI rfl (E4 [] (R2 (AI TV TV)))
 refine gM (cF ?_)
 cases sE q
 refine AI rfl (E4 [] (R2 (AI TV TV)))
theorem H188:HI C188 188:=hI Tryz.f188 rfl fun x=>V188 x
def f190 (long wide step:Int):Option Int:=
 bif (decide (wide>long)) then
 some (0:Int)
 else
 Ad (step≠0)<|
 some (i64.wrap ((i64.wrap (Int.tdiv (i64.wrap (long-wide)) step))+1))
def C190:Con:=⟨Bw,Int,0,fun x=>[.dat T0 x.1,.dat T0 x.2.1,.dat T0 x.2.2],NX,fun x=>f190 x.1 x.2.1 x.2.2,fun y=>[.dat T0 y],NX,0⟩
theorem V190 long wide step y (q:f190 long wide step=some y):VC Tryz.f190 C190 (long,wide,step) y:=by
 unfold f190 at q
 refine OL (OL (OL (cI q (fun q=>?_) (fun q=>?_))))
 ·cases sE q
  refine OL (AI rfl (E4 [] (R2 (AI TV TV))))
 refine OL (gI q (fun q=>?_))
 cases sE q
 refine AI rfl (E4 [] (R2 (AI TV TV)))
theorem H190:HI C190 190:=hI Tryz.f190 rfl fun x=>V190 x.1 x.2.1 x.2.2
def f191 (d:LI):Option Bl:=
 Ac (f75 d (0:Int)) fun r1=>
 bif (r1.1 != 0) then
 some ((2:Int),[],[])
 else
 some ((0:Int),r1.2.1,r1.2.2)
def C191:Con:=⟨LI,Bl,0,fun x=>[.dat T5 x],NX,fun x=>f191 x,fun y=>[.raw true [(.osl 0),(.osl 1)],.dat T0 y.1],fun y=>[(0,.arr 3 T0 y.2.1),(1,.arr 26 T0 y.2.2)],2⟩
theorem V191 d y (q:f191 d=some y):VC Tryz.f191 C191 d y:=by
 unfold f191 at q
 refine OL (OL ?_)
 obtain ⟨r1,h,q⟩:=bE q
 refine OL (cA H75 (d,(0:Int)) h rfl (R2 (K0 (OL (OL (OL (cI q (fun q=>?_) (fun q=>?_))))))))
 ·refine OL (OL ?_)
  cases sE q
  refine AI rfl (E4 (iuR [0,0]) (R2 (AJ (R2 TV))))
 refine OL (OL ?_)
 cases sE q
 refine AI rfl (E4 (iuR [2,3]) (R2 (AJ (R2 TV))))
theorem H191:HI C191 191:=hI Tryz.f191 rfl fun x=>V191 x
def f207_j4 (a k:Al) (step:Int):Option Bool:=
 Ac (f119 (a.1,a.2)) fun r12=>
 bif (!r12) then
 some true
 else
 Ac (f119 (k.1,k.2)) fun r13=>
 bif (!r13) then
 some true
 else
 Ac (f188 step) fun r14=>
 some (!r14)
def f207_j5 (a k:Al):Option Bool:=
 bif ((a.1.length:Int) != 2) then
 some true
 else
 bif ((k.1.length:Int) != 3) then
 some true
 else
 Ad (0≤(1:Int)∧1<(k.1.length:Int))<|
 Ad (0≤(0:Int)∧0<(a.1.length:Int))<|
 bif ((rd 0 k.1 1) != (rd 0 a.1 0)) then
 some true
 else
 Ad (0≤(2:Int)∧2<(k.1.length:Int))<|
 Ad (0≤(1:Int)∧1<(a.1.length:Int))<|
 some (decide ((rd 0 k.1 2)>(rd 0 a.1 1)))
def f207_j3 (a k:Al) (step:Int):Option (Sum Unit Int):=
 Ac (f207_j4 a k step) fun z11=>
 bif z11 then
 some (Sum.inr (1:Int))
 else
 Ac (f207_j5 a k) fun z15=>
 bif z15 then
 some (Sum.inr (4:Int))
 else
 some (Sum.inl ())
def f207_l18 (a k:Al) (step q5_14 v102 v112:Int) (go:PTz7→Option Bw) (v116 c4_0_2 c4_1_2 c4_2_2:Int):Option Bw:=
 bif (decide (v116<(rd 0 k.1 2))) then
 Ad (0≤(i64.wrap ((i64.wrap ((i64.wrap (v112*(rd 0 a.1 1)))+(i64.wrap ((Int.tmod v102 q5_14)*step))))+v116))∧(i64.wrap ((i64.wrap ((i64.wrap (v112*(rd 0 a.1 1)))+(i64.wrap ((Int.tmod v102 q5_14)*step))))+v116))<a.2.length)<|
 Ad (0≤(i64.wrap ((i64.wrap ((i64.wrap ((i64.wrap ((i64.wrap (Int.tdiv v102 q5_14))*(rd 0 a.1 0)))+v112))*(rd 0 k.1 2)))+v116))∧(i64.wrap ((i64.wrap ((i64.wrap ((i64.wrap ((i64.wrap (Int.tdiv v102 q5_14))*(rd 0 a.1 0)))+v112))*(rd 0 k.1 2)))+v116))<k.2.length)<|
 Ac (f192 c4_0_2 c4_1_2 c4_2_2 (rd 0 a.2 (i64.wrap ((i64.wrap ((i64.wrap (v112*(rd 0 a.1 1)))+(i64.wrap ((Int.tmod v102 q5_14)*step))))+v116))) (rd 0 k.2 (i64.wrap ((i64.wrap ((i64.wrap ((i64.wrap ((i64.wrap (Int.tdiv v102 q5_14))*(rd 0 a.1 0)))+v112))*(rd 0 k.1 2)))+v116)))) fun q21_26=>
 go ((i64.wrap (v116+1)),q21_26.1,q21_26.2.1,q21_26.2.2)
 else
 some (c4_0_2,c4_1_2,c4_2_2)
def f207_l17 (a k:Al) (step q5_14 v102:Int) (go:PTz7→Option Bw) (v112 c4_0 c4_1 c4_2:Int):Option Bw:=
 bif (decide (v112<(rd 0 a.1 0))) then
 Ac (Ag (fun go x=>f207_l18 a k step q5_14 v102 v112 go x.1 x.2.1 x.2.2.1 x.2.2.2) Ah ((0:Int),c4_0,c4_1,c4_2)) fun z29=>
 go ((i64.wrap (v112+1)),z29.1,z29.2.1,z29.2.2)
 else
 some (c4_0,c4_1,c4_2)
def f207_l14 (a k:Al) (step q5_14:Int) (r16:Bl) (go:Bc→Option LI) (v102:Int) (l5:LI):Option LI:=
 bif (decide (v102<r16.2.2.length)) then
 Ad (q5_14≠0)<|
 Ad (q5_14≠0)<|
 Ac (Ag (fun go x=>f207_l17 a k step q5_14 v102 go x.1 x.2.1 x.2.2.1 x.2.2.2) Ah ((0:Int),(0:Int),(0:Int),(0:Int))) fun z28=>
 Ac (f193 z28.1 z28.2.1 z28.2.2 (32:Int)) fun q24_3=>
 Ad (0≤v102∧v102<l5.length)<|
 go ((i64.wrap (v102+1)),(List.set l5 (Int.toNat v102) q24_3.1))
 else
 some l5
def f207 (a k:Al) (step:Int):Option Bl:=
 Ac (f207_j3 a k step) fun z8=>
 Ak z8 (fun z8a=>
 Ad (0≤(0:Int)∧0<(a.1.length:Int))<|
 Ad (0≤(1:Int)∧1<(a.1.length:Int))<|
 Ad (0≤(2:Int)∧2<(k.1.length:Int))<|
 Ac (f190 (rd 0 a.1 1) (rd 0 k.1 2) step) fun q5_14=>
 Ad (0≤(0:Int)∧0<(k.1.length:Int))<|
 Ac (f191 ([(rd 0 k.1 0),q5_14])) fun r16=>
 bif (r16.1 != 0) then
 some (r16.1,[],[])
 else
 Ac (Ag (fun go x=>f207_l14 a k step q5_14 r16 go x.1 x.2) Ah ((0:Int),r16.2.2)) fun z25=>
 some ((0:Int),r16.2.1,z25)) (fun z8b=>
 some (z8b,[],[]))
def C207:Con:=⟨Al×Al×Int,Bl,0,fun x=>[.dat T8 x.1,.dat T8 x.2.1,.dat T0 x.2.2],NX,fun x=>f207 x.1 x.2.1 x.2.2,fun y=>[.raw true [(.osl 0),(.osl 1)],.dat T0 y.1],fun y=>[(0,.arr 3 T0 y.2.1),(1,.arr 26 T0 y.2.2)],2⟩
theorem V207 a k step y (q:f207 a k step=some y):VC Tryz.f207 C207 (a,k,step) y:=by
 unfold f207 at q
 refine OL ?_
 obtain ⟨z8,hz8,q⟩:=bE q
 let e0:LE:=fun zz=>(2,.dat T0 step)::(3,P0 0 0)::(4,P0 1 0)::(6,P0 2 0)::zz
 let h1:LH:=fun zz=>(0,.cells [(.d T5 a.1),(.d T5 a.2)])::(1,.cells [(.d T5 k.1),(.d T5 k.2)])::(2,.cells [N0,N0])::zz
 refine OQ ⟨Sum.elim (fun z8a=>[(0,⟨e0 [],h1 [],3⟩)]) (fun z8b=>[(1,⟨[(6,P0 0 0),(7,.dat T0 z8b)],[(0,.cells [N0,N0])],1⟩)]) z8,?_,?_⟩
 ·have q:=hz8
  clear hz8
  unfold f207_j3 at q
  obtain ⟨z11,hz11,q⟩:=bE q
  refine OQ ⟨[(0,⟨e0 [(20,.dat .bool z11)],h1 [],3⟩)],?_,?_⟩
  ·have q:=hz11
   clear hz11
   unfold f207_j4 at q
   obtain ⟨r12,h,q⟩:=bE q
   refine OL (cA H119 (a.1,a.2) h rfl (R2 (K0 (cN q (fun q=>?_) (fun q=>?_)))))
   ·refine gY ?_
    obtain ⟨r13,h,q⟩:=bE q
    refine OL (cA H119 (k.1,k.2) h rfl (R2 (K0 (gY (cF (cN q (fun q=>?_) (fun q=>?_)))))))
    ·refine gY ?_
     obtain ⟨r14,h,q⟩:=bE q
     refine OL (cA H188 step h rfl (AI rfl (K0 (gY (cF ?_)))))
     cases sE q
     refine E4 I3 (R3 (AI (R3 TV) (R3 TV)))
    refine gN (gN (cT ?_))
    cases sE q
    refine E4 I3 (R3 (AI (R3 TV) (R3 TV)))
   refine gN (gN (cT (gN (gN (gN (cT ?_))))))
   cases sE q
   refine E4 I3 (R3 (AI (R3 TV) (R3 TV)))
  refine AI (cI q (fun q=>?_) (fun q=>?_)) TV
  ·refine OL (OL ?_)
   cases sE q
   refine E4 (iuR [3]) (R2 (AJ (AI rfl TV)))
  obtain ⟨z15,hz15,q⟩:=bE q
  refine OQ ⟨[(0,⟨e0 [(35,.dat .bool z15)],h1 [],3⟩)],?_,?_⟩
  ·have q:=hz15
   clear hz15
   unfold f207_j5 at q
   refine EI (tU 0 33 .done) (EI [] (EI [] (AI rfl (cN q (fun q=>?_) (fun q=>?_)))))
   ·refine gY (gY (gY (cF (cN q (fun q=>?_) (fun q=>?_)))))
    ·refine gY (gY (gI q (fun q=>?_)))
     refine gY (gY (gY (gY (gI q (fun q=>?_)))))
     refine gY (gY (cF (cN q (fun q=>?_) (fun q=>?_))))
     ·refine gY (gY (gI q (fun q=>?_)))
      refine gY (gY (gY (gY (gI q (fun q=>?_)))))
      refine gY (gY (cF ?_))
      cases sE q
      refine E4 I3 (R3 (AI (R3 TV) (R3 TV)))
     refine gN (gN (gN (gN (gN (gN (gN (gN (cT ?_))))))))
     cases sE q
     refine E4 I3 (R3 (AI (R3 TV) (R3 TV)))
    refine gN (gN (gN (gN (gN (gN (gN (gN (cT (gN (gN (gN (gN (gN (gN (gN (gN (gN (cT ?_))))))))))))))))))
    cases sE q
    refine E4 I3 (R3 (AI (R3 TV) (R3 TV)))
   refine gN (gN (gN (cT (gN (gN (gN (gN (gN (gN (gN (gN (gN (cT (gN (gN (gN (gN (gN (gN (gN (gN (gN (cT ?_)))))))))))))))))))))))
   cases sE q
   refine E4 I3 (R3 (AI (R3 TV) (R3 TV)))
  refine AI (cI q (fun q=>?_) (fun q=>?_)) TV
  ·refine OL (OL ?_)
   cases sE q
   refine E4 (iuR [3]) (R2 (AJ (AI rfl TV)))
  cases sE q
  refine E4 I3 (R2 (AI (R3 TV) (R3 TV)))
 rcases z8 with z8a | z8b
 ·dsimp only [Ak] at q
  refine AI (OL (EI (tU 0 15 .done) (EI [] (EI [] (AI rfl (gI q (fun q=>?_))))))) TV
  refine gI q (fun q=>?_)
  refine gI q (fun q=>?_)
  refine OL ?_
  obtain ⟨q5_14,h,q⟩:=bE q
  refine OL (cA H190 ((rd 0 a.1 1),(rd 0 k.1 2),step) h rfl (R3 (K0 (OL (gI q (fun q=>?_))))))
  refine OL ?_
  obtain ⟨r16,h,q⟩:=bE q
  refine OL (cD H191 [(rd 0 k.1 0),q5_14] h rfl (AI rfl (AI (fun _=>rfl) (R2 (AI TV (AI TV (OL (OL (OL (cI q (fun q=>?_) (fun q=>?_)))))))))))
  ·refine OL (OL ?_)
   cases sE q
   refine AI rfl (E4 (iuR [0,0]) (R2 (AJ (R2 TV))))
  refine OL (OL ?_)
  obtain ⟨z25,hz25,q⟩:=bE q
  let e2:LE:=fun zz=>e0 ((8,.dat T0 (rd 0 a.1 0))::(9,.dat T0 (rd 0 a.1 1))::(10,.dat T0 (rd 0 k.1 2))::(11,.dat T0 q5_14)::(12,P0 3 0)::zz)
  refine lJ hz25 (fun x=>⟨e2 [(101,.dat T0 (r16.2.2.length:Int)),(102,.dat T0 x.1)],h1 [(3,.cells [(.osl 4),(.osl 5)]),(4,.arr 3 T0 r16.2.1),(5,.arr 26 T0 x.2)],6⟩) (fun z=>[(3,⟨[(6,P0 0 0),(12,P0 1 0)],[(0,.cells [N0,N0]),(1,.cells [(.osl 2),(.osl 3)]),(2,.arr 3 T0 r16.2.1),(3,.arr 26 T0 z)],4⟩)]) (E4 (iuR [1,2,3,7,5,6]) (R8 (AI (R4 TV) (R6 TV)))) (fun m=>An (fun v102=>fun l5 z q=>?_)) ?_
  ·have q:f207_l14 a k step q5_14 r16 _ v102 l5=some z:=q
   unfold f207_l14 at q
   refine OL (OL (cI q (fun q=>?_) (fun q=>?_)))
   ·refine OL (OL (OL (EI (tU 0 8 .done) (EI [] (EI [] (AI rfl (gI q (fun q=>?_))))))))
    refine gI q (fun q=>?_)
    refine OL (OL (OL ?_))
    obtain ⟨z28,hz28,q⟩:=bE q
    let e3:LE:=fun zz=>e2 ((14,.dat T0 v102)::zz)
    let e4:LE:=fun zz=>e3 ((15,.dat T0 (i64.wrap (Int.tdiv v102 q5_14)))::(16,.dat T0 (Int.tmod v102 q5_14))::(17,P0 4 0)::zz)
    let e5:LE:=fun zz=>e4 ((101,.dat T0 (r16.2.2.length:Int))::(102,.dat T0 v102)::(111,.dat T0 (rd 0 a.1 0))::zz)
    let h6:LH:=fun zz=>h1 ((3,.cells [(.osl 5),(.osl 6)])::zz)
    refine lJ hz28 (fun x=>⟨e5 [(112,.dat T0 x.1)],h6 [(4,.cells [(.d T0 x.2.1),(.d T0 x.2.2.1),(.d T9 x.2.2.2)]),(5,.arr 3 T0 r16.2.1),(6,.arr 26 T0 l5)],7⟩) (fun z=>[(5,⟨e3 [(17,P0 4 0),(101,.dat T0 (r16.2.2.length:Int)),(102,.dat T0 v102)],h6 [(4,.cells [(.d T0 z.1),(.d T0 z.2.1),(.d T9 z.2.2)]),(5,.arr 3 T0 r16.2.1),(6,.arr 26 T0 l5)],7⟩)]) (E4 (iuR [1,2,3,4,7,5,6]) (R13 (AI (R5 TV) (R7 TV)))) (fun m=>An (fun v112=>An (fun c4_0=>An (fun c4_1=>fun c4_2 z q=>?_)))) ?_
    ·have q:f207_l17 a k step q5_14 v102 _ v112 c4_0 c4_1 c4_2=some z:=q
     unfold f207_l17 at q
     refine OL (OL (cI q (fun q=>?_) (fun q=>?_)))
     ·refine OL (OL (OL ?_))
      obtain ⟨z29,h,q⟩:=bE q
      refine lJ h (fun x=>⟨e4 [(18,.dat T0 v112),(101,.dat T0 (r16.2.2.length:Int)),(102,.dat T0 v102),(111,.dat T0 (rd 0 a.1 0)),(112,.dat T0 v112),(115,.dat T0 (rd 0 k.1 2)),(116,.dat T0 x.1)],h6 [(4,.cells [(.d T0 x.2.1),(.d T0 x.2.2.1),(.d T9 x.2.2.2)]),(5,.arr 3 T0 r16.2.1),(6,.arr 26 T0 l5)],7⟩) (fun z=>[(7,⟨e5 [(112,.dat T0 v112)],h6 [(4,.cells [(.d T0 z.1),(.d T0 z.2.1),(.d T9 z.2.2)]),(5,.arr 3 T0 r16.2.1),(6,.arr 26 T0 l5)],7⟩)]) (E4 I7 (R16 (AI (R5 TV) (R7 TV)))) (fun m=>An (fun v116=>An (fun c4_0_2=>An (fun c4_1_2=>fun c4_2_2 z q=>?_)))) ?_
      ·have q:f207_l18 a k step q5_14 v102 v112 _ v116 c4_0_2 c4_1_2 c4_2_2=some z:=q
       unfold f207_l18 at q
       refine OL (OL (cI q (fun q=>?_) (fun q=>?_)))
       ·refine OL (OL (EI (tU 0 26 (.alt 26 .done .done)) (EI [] (EI [] (AI rfl (gI q (fun q=>?_)))))))
        refine gI q (fun q=>?_)
        refine AI TV ?_
        obtain ⟨q21_26,h,q⟩:=bE q
        refine OL (cB H192 (c4_0_2,c4_1_2,c4_2_2,(rd 0 a.2 (i64.wrap ((i64.wrap ((i64.wrap (v112*(rd 0 a.1 1)))+(i64.wrap ((Int.tmod v102 q5_14)*step))))+v116))),(rd 0 k.2 (i64.wrap ((i64.wrap ((i64.wrap ((i64.wrap ((i64.wrap (Int.tdiv v102 q5_14))*(rd 0 a.1 0)))+v112))*(rd 0 k.1 2)))+v116)))) (iuR [5]) false h rfl (R2 (AI NH (R2 (AJ (AJ (EI ((i64.wrap (v116+1)),q21_26.1,q21_26.2.1,q21_26.2.2) (AI q (E4 I7 (R16 (AI (R5 TV) (R7 TV))))))))))))
       cases sE q
       refine E4 I7 (R13 (AI (R5 TV) (R7 TV)))
      refine AI (EI ((i64.wrap (v112+1)),z29.1,z29.2.1,z29.2.2) (AI q (E4 I7 (R13 (AI (R5 TV) (R7 TV)))))) TV
     cases sE q
     refine E4 I7 (R9 (AI (R5 TV) (R7 TV)))
    refine AI (EI (tU 0 3 (.alt 3 (.take 4 (.alt 5 .done .done)) .done)) (EI [] (EI [] (AI rfl (AI TV ?_))))) TV
    obtain ⟨q24_3,h,q⟩:=bE q
    refine OL (cB H193 (z28.1,z28.2.1,z28.2.2,(32:Int)) (iuR [5]) false h rfl (AI rfl (AI NH (R2 (AJ (AJ (gI q (fun q=>?_))))))))
    refine AI TV (OL (EI ((i64.wrap (v102+1)),(List.set l5 (Int.toNat v102) q24_3.1)) (AI q (E4 (iuR [1,2,3,4,6,7]) (R8 (AI (R4 TV) (R6 TV)))))))
   cases sE q
   refine E4 (iuR [3,4,5,6]) (AI rfl (AI (R2 TV) (R4 TV)))
  refine AI (OL (OL ?_)) TV
  cases sE q
  refine AI rfl (E4 (iuR [3,4]) (R2 (AJ (R2 TV))))
 dsimp only [Ak] at q
 refine AI ?_ TV
 cases sE q
 refine AI rfl (E4 (iuR [0,0]) (R2 (AJ (R2 TV))))
theorem H207:HI C207 207:=hI Tryz.f207 rfl fun x=>V207 x.1 x.2.1 x.2.2
def f176 (op:Int) (a b:Al) (k:Int):Option Bl:=
 bif (op==2) then
 Ac (f123 (a.1,a.2) (b.1,b.2)) fun r1=>
 some (r1.1,r1.2.1,r1.2.2)
 else
 bif (op==3) then
 Ac (f206 (a.1,a.2) (b.1,b.2)) fun r2=>
 some (r2.1,r2.2.1,r2.2.2)
 else
 bif (op==4) then
 Ac (f142 (a.1,a.2) (b.1,b.2)) fun r3=>
 some (r3.1,r3.2.1,r3.2.2)
 else
 bif (op==6) then
 Ac (f181 (a.1,a.2) (b.1,b.2)) fun r4=>
 some (r4.1,r4.2.1,r4.2.2)
 else
 Ac (f207 (a.1,a.2) (b.1,b.2) k) fun r5=>
 some (r5.1,r5.2.1,r5.2.2)
def C176:Con:=⟨Int×Al×Al×Int,Bl,0,fun x=>[.dat T0 x.1,.dat T8 x.2.1,.dat T8 x.2.2.1,.dat T0 x.2.2.2],NX,fun x=>f176 x.1 x.2.1 x.2.2.1 x.2.2.2,fun y=>[.raw true [(.osl 0),(.osl 1)],.dat T0 y.1],fun y=>[(0,.arr 3 T0 y.2.1),(1,.arr 26 T0 y.2.2)],2⟩
theorem V176 op a b k y (q:f176 op a b k=some y):VC Tryz.f176 C176 (op,a,b,k) y:=by
 unfold f176 at q
 refine OL (OL (OL (OL (cI q (fun q=>?_) (fun q=>?_)))))
 ·refine OL ?_
  obtain ⟨r1,h,q⟩:=bE q
  refine OL (cA H123 ((a.1,a.2),(b.1,b.2)) h rfl (R4 (K0 (OL ?_))))
  cases sE q
  refine AI rfl (E4 (iuR [4,5]) (R2 (AJ (R2 TV))))
 refine OL (cI q (fun q=>?_) (fun q=>?_))
 ·refine OL ?_
  obtain ⟨r2,h,q⟩:=bE q
  refine OL (cA H206 ((a.1,a.2),(b.1,b.2)) h rfl (R4 (K0 (OL ?_))))
  cases sE q
  refine AI rfl (E4 (iuR [4,5]) (R2 (AJ (R2 TV))))
 refine OL (cI q (fun q=>?_) (fun q=>?_))
 ·refine OL ?_
  obtain ⟨r3,h,q⟩:=bE q
  refine OL (cA H142 ((a.1,a.2),(b.1,b.2)) h rfl (R4 (K0 (OL ?_))))
  cases sE q
  refine AI rfl (E4 (iuR [4,5]) (R2 (AJ (R2 TV))))
 refine OL (cI q (fun q=>?_) (fun q=>?_))
 ·refine OL ?_
  obtain ⟨r4,h,q⟩:=bE q
  refine OL (cA H181 ((a.1,a.2),(b.1,b.2)) h rfl (R4 (K0 (OL ?_))))
  cases sE q
  refine AI rfl (E4 (iuR [4,5]) (R2 (AJ (R2 TV))))
 refine OL ?_
 obtain ⟨r5,h,q⟩:=bE q
 refine OL (cA H207 ((a.1,a.2),(b.1,b.2),k) h rfl (R5 (K0 (OL ?_))))
 cases sE q
 refine AI rfl (E4 (iuR [4,5]) (R2 (AJ (R2 TV))))
theorem H176:HI C176 176:=hI Tryz.f176 rfl fun x=>V176 x.1 x.2.1 x.2.2.1 x.2.2.2
end Go.Proofs
