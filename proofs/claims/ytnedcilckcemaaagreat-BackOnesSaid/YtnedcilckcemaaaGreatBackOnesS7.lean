import Derived.Test.YtnedcilckcemaaaGreatBackOnesS6
set_option linter.unusedVariables false
set_option maxRecDepth 100000
set_option maxHeartbeats 8000000
namespace Go.Proofs
open Go.AM
open IntKind (i64 u64 i32 u32 i16 u16 i8 u8)
def f83_j3 (a:Fx) (d:LI):Option Bool:=
 Ey (f32 (a.1,a.2)) fun r9=>
 bif (!r9) then
 some true
 else
 Ey (f67 d) fun r10=>
 some (!r10)
def f83_j2 (a:Fx) (d:LI):Option (Sum Unit Unit):=
 Ey (f83_j3 a d) fun z8=>
 bif z8 then
 some (Sum.inr ())
 else
 some (Sum.inl ())
def f83_j6 (a:Fx) (r11:Jv):Option Bool:=
 bif (r11.1 != 0) then
 some true
 else
 Ey (f26 r11.2 a.1) fun r18=>
 some (!r18)
def f83_j5 (a:Fx) (r11:Jv):Option (Sum Unit Unit):=
 Ey (f83_j6 a r11) fun z17=>
 bif z17 then
 some (Sum.inr ())
 else
 some (Sum.inl ())
def f83_l7 (a:Fx) (d:LI) (go:Jv→Option LI) (i:Int) (l4:LI):Option LI:=
 bif (decide (i<a.2.length)) then
 Ey (f63 d a.1 i) fun r23=>
 E9 (0≤r23.1∧r23.1<l4.length)<|
 E9 (0≤i∧i<a.2.length)<|
 Ey (f64 (rd 0 l4 r23.1) (rd 0 a.2 i)) fun q11_13=>
 E9 (0≤r23.1∧r23.1<l4.length)<|
 go ((i64.wrap (i+1)),(List.set l4 (Int.toNat r23.1) q11_13))
 else
 some l4
def f83 (a:Fx) (d:LI):Option Gl:=
 Ey (f83_j2 a d) fun z5=>
 Fz z5 (fun z5a=>
 Ey (f62 d a.1) fun r11=>
 Ey (f83_j5 a r11) fun z15=>
 Fz z15 (fun z15a=>
 Ey (f11 d (0:Int)) fun r19=>
 Ey (Fp (fun go x=>f83_l7 a d go x.1 x.2) Fv ((0:Int),r19.2)) fun z22=>
 some ((0:Int),r19.1,z22)) (fun z15b=>
 some ((4:Int),[],[]))) (fun z5b=>
 some ((1:Int),[],[]))
def C83:Con:=⟨Fx×LI,Gl,0,fun x=>[.dat T3 x.1,.dat T1 x.2],NX,fun x=>f83 x.1 x.2,fun y=>[.raw true [(.osl 0),(.osl 1)],.dat T2 y.1],fun y=>[(0,.arr 3 T2 y.2.1),(1,.arr 42 T2 y.2.2)],2⟩
theorem V83 a d y (q:f83 a d=some y):VC Tryz.f83 C83 (a,d) y:=by
 unfold f83 at q
 refine OL ?_
 obtain ⟨z5,hz5,q⟩:=bE q
 let e0:LE:=fun zz=>(1,.dat T1 d)::(2,P0 0 0)::(4,P0 1 0)::zz
 let h1:LH:=fun zz=>(0,.cells [(.d T1 a.1),(.d T1 a.2)])::(1,.cells [N0,N0])::zz
 refine OQ ⟨Sum.elim (fun z5a=>[(0,⟨e0 [],h1 [],2⟩)]) (fun z5b=>[(1,⟨[(4,P0 0 0),(5,D0 1)],[(0,.cells [N0,N0])],1⟩)]) z5,?_,?_⟩
 ·have q:=hz5
  clear hz5
  unfold f83_j2 at q
  obtain ⟨z8,hz8,q⟩:=bE q
  refine OQ ⟨[(0,⟨e0 [(19,.dat .bool z8)],h1 [],2⟩)],?_,?_⟩
  ·have q:=hz8
   clear hz8
   unfold f83_j3 at q
   obtain ⟨r9,h,q⟩:=bE q
   refine OL (cA H32 (a.1,a.2) h rfl (R2 (K0 (cN q (fun q=>?_) (fun q=>?_)))))
   ·refine gY ?_
    obtain ⟨r10,h,q⟩:=bE q
    refine OL (cA H67 d h rfl (AI rfl (K0 (gY (cF ?_)))))
    cases sE q
    refine E4 I2 (R3 (AI (R2 TV) (R2 TV)))
   refine gN (gN (cT ?_))
   cases sE q
   refine E4 I2 (R3 (AI (R2 TV) (R2 TV)))
  refine AI (cI q (fun q=>?_) (fun q=>?_)) TV
  ·refine OL (OL ?_)
   cases sE q
   refine E4 (iuR [2]) (R2 (AJ (AI rfl TV)))
  cases sE q
  refine E4 I2 (R2 (AI (R2 TV) (R2 TV)))
 rcases z5 with z5a | z5b
 ·dsimp only [Fz] at q
  refine AI (OL ?_) TV
  obtain ⟨r11,h,q⟩:=bE q
  refine OL (cA H62 (d,a.1) h rfl (R2 (K0 ?_)))
  obtain ⟨z15,hz15,q⟩:=bE q
  refine OQ ⟨Sum.elim (fun z15a=>[(0,⟨e0 [],h1 [],2⟩)]) (fun z15b=>[(1,⟨[(4,P0 0 0),(5,D0 4)],[(0,.cells [N0,N0])],1⟩)]) z15,?_,?_⟩
  ·have q:=hz15
   clear hz15
   unfold f83_j5 at q
   obtain ⟨z17,hz17,q⟩:=bE q
   refine OQ ⟨[(0,⟨e0 [(36,.dat .bool z17)],h1 [],2⟩)],?_,?_⟩
   ·have q:=hz17
    clear hz17
    unfold f83_j6 at q
    refine cN q (fun q=>?_) (fun q=>?_)
    ·refine gY (gY (gY ?_))
     obtain ⟨r18,h,q⟩:=bE q
     refine OL (cD H26 (r11.2,a.1) h rfl (R2 (AI (fun _=>rfl) (R2 (AI TV (AI TV (gY (cF ?_))))))))
     cases sE q
     refine E4 I2 (R3 (AI (R2 TV) (R2 TV)))
    refine gN (gN (gN (gN (cT ?_))))
    cases sE q
    refine E4 I2 (R3 (AI (R2 TV) (R2 TV)))
   refine AI (cI q (fun q=>?_) (fun q=>?_)) TV
   ·refine OL (OL ?_)
    cases sE q
    refine E4 (iuR [2]) (R2 (AJ (AI rfl TV)))
   cases sE q
   refine E4 I2 (R2 (AI (R2 TV) (R2 TV)))
  rcases z15 with z15a | z15b
  ·dsimp only [Fz] at q
   refine AI (OL ?_) TV
   obtain ⟨r19,h,q⟩:=bE q
   refine OL (cA H11 (d,(0:Int)) h rfl (R2 (K0 (OL (OL (OL ?_))))))
   obtain ⟨z22,h,q⟩:=bE q
   refine lJ h (fun x=>⟨e0 [(8,P0 2 0),(9,.dat T2 x.1)],h1 [(2,.cells [(.osl 3),(.osl 4)]),(3,.arr 3 T2 r19.1),(4,.arr 42 T2 x.2)],5⟩) (fun z=>[(2,⟨[(4,P0 0 0),(8,P0 1 0)],[(0,.cells [N0,N0]),(1,.cells [(.osl 2),(.osl 3)]),(2,.arr 3 T2 r19.1),(3,.arr 42 T2 z)],4⟩)]) (E4 (iuR [1,2,5,3,4]) (R3 (AI (R3 TV) (R5 TV)))) (fun m=>F6 (fun i=>fun l4 z q=>?_)) ?_
   ·have q:f83_l7 a d _ i l4=some z:=q
    unfold f83_l7 at q
    refine OL (OL (cI q (fun q=>?_) (fun q=>?_)))
    ·refine OL (OL ?_)
     obtain ⟨r23,h,q⟩:=bE q
     refine OL (cA H63 (d,a.1,i) h rfl (R3 (K0 (EI (tU 0 13 (.alt 13 (.take 14 (.alt 15 .done .done)) .done)) (EI [(15,[4])] (EI [] (AI rfl (gI q (fun q=>?_)))))))))
     refine gI q (fun q=>?_)
     refine AI TV ?_
     obtain ⟨q11_13,h,q⟩:=bE q
     refine OL (cA H64 ((rd 0 l4 r23.1),(rd 0 a.2 i)) h rfl (R2 (K0 (gI q (fun q=>?_)))))
     refine AI TV (OL (EI ((i64.wrap (i+1)),(List.set l4 (Int.toNat r23.1) q11_13)) (AI q (E4 I5 (R3 (AI (R3 TV) (R5 TV)))))))
    cases sE q
    refine E4 (iuR [2,3,4,5]) (AI rfl (AI (R2 TV) (R4 TV)))
   refine AI (OL (OL ?_)) TV
   cases sE q
   refine AI rfl (E4 (iuR [3,4]) (R2 (AJ (R2 TV))))
  dsimp only [Fz] at q
  refine AI ?_ TV
  cases sE q
  refine AI rfl (E4 (iuR [0,0]) (R2 (AJ (R2 TV))))
 dsimp only [Fz] at q
 refine AI ?_ TV
 cases sE q
 refine AI rfl (E4 (iuR [0,0]) (R2 (AJ (R2 TV))))
theorem H83:HI C83 83:=hI Tryz.f83 rfl fun x=>V83 x.1 x.2
def f33 (g:Fx) (d:LI):Option Fx:=
 Ey (f83 (g.1,g.2) d) fun r1=>
 some (r1.2.1,r1.2.2)
def C33:Con:=⟨Fx×LI,Fx,0,fun x=>[.dat T3 x.1,.dat T1 x.2],NX,fun x=>f33 x.1 x.2,fun y=>[.raw true [(.osl 0),(.osl 1)]],fun y=>[(0,.arr 3 T2 y.1),(1,.arr 42 T2 y.2)],2⟩
theorem V33 g d y (q:f33 g d=some y):VC Tryz.f33 C33 (g,d) y:=by
 unfold f33 at q
 refine OL (OL ?_)
 obtain ⟨r1,h,q⟩:=bE q
 refine OL (cA H83 ((g.1,g.2),d) h rfl (R3 (K0 (OL (OL (OL ?_))))))
 cases sE q
 refine AI rfl (E4 (iuR [3,4]) (AI rfl (AJ (R2 TV))))
theorem H33:HI C33 33:=hI Tryz.f33 rfl fun x=>V33 x.1 x.2
def f91 (kind x_:Int):Option Int:=
 bif (kind==1) then
 bif (decide (x_>0)) then
 some (4294967296:Int)
 else
 some (0:Int)
 else
 bif (kind==2) then
 bif (decide (x_>0)) then
 some (4294967296:Int)
 else
 some (536870912:Int)
 else
 bif (kind==3) then
 bif (decide (x_>(-4294967296:Int))) then
 bif (decide (x_<4294967296)) then
 some (4294967296:Int)
 else
 some (0:Int)
 else
 some (0:Int)
 else
 bif (kind==4) then
 bif (decide (x_>0)) then
 some (4294967296:Int)
 else
 bif (decide (x_<0)) then
 some (-4294967296:Int)
 else
 some (0:Int)
 else
 bif (decide (x_>(-4294967296:Int))) then
 bif (decide (x_<4294967296)) then
 some (2147483648:Int)
 else
 some (0:Int)
 else
 some (0:Int)
def C91:Con:=⟨Gm,Int,0,fun x=>[.dat T2 x.1,.dat T2 x.2],NX,fun x=>f91 x.1 x.2,fun y=>[.dat T2 y],NX,0⟩
theorem V91 kind x_ y (q:f91 kind x_=some y):VC Tryz.f91 C91 (kind,x_) y:=by
 unfold f91 at q
 refine OL (OL (OL (OL (cI q (fun q=>?_) (fun q=>?_)))))
 ·refine OL (OL (cI q (fun q=>?_) (fun q=>?_)))
  ·cases sE q
   refine OL (AI rfl (E4 [] (R2 (AI TV TV))))
  cases sE q
  refine OL (AI rfl (E4 [] (R2 (AI TV TV))))
 refine OL (cI q (fun q=>?_) (fun q=>?_))
 ·refine OL (OL (cI q (fun q=>?_) (fun q=>?_)))
  ·cases sE q
   refine OL (AI rfl (E4 [] (R2 (AI TV TV))))
  cases sE q
  refine OL (AI rfl (E4 [] (R2 (AI TV TV))))
 refine OL (cI q (fun q=>?_) (fun q=>?_))
 ·refine OL (OL (cI q (fun q=>?_) (fun q=>?_)))
  ·refine gX (cT (cI q (fun q=>?_) (fun q=>?_)))
   ·cases sE q
    refine OL (AI rfl (E4 [] (R2 (AI TV TV))))
   cases sE q
   refine OL (AI rfl (E4 [] (R2 (AI TV TV))))
  refine gM (cF (cF (OL ?_)))
  cases sE q
  refine AI rfl (E4 [] (R2 (AI TV TV)))
 refine OL (cI q (fun q=>?_) (fun q=>?_))
 ·refine OL (OL (cI q (fun q=>?_) (fun q=>?_)))
  ·cases sE q
   refine OL (AI rfl (E4 [] (R2 (AI TV TV))))
  refine OL (cI q (fun q=>?_) (fun q=>?_))
  ·cases sE q
   refine OL (AI rfl (E4 [] (R2 (AI TV TV))))
  cases sE q
  refine OL (AI rfl (E4 [] (R2 (AI TV TV))))
 refine OL (OL (cI q (fun q=>?_) (fun q=>?_)))
 ·refine gX (cT (cI q (fun q=>?_) (fun q=>?_)))
  ·cases sE q
   refine OL (AI rfl (E4 [] (R2 (AI TV TV))))
  cases sE q
  refine OL (AI rfl (E4 [] (R2 (AI TV TV))))
 refine gM (cF (cF (OL ?_)))
 cases sE q
 refine AI rfl (E4 [] (R2 (AI TV TV)))
theorem H91:HI C91 91:=hI Tryz.f91 rfl fun x=>V91 x.1 x.2
def f42_j3 (kind:Int) (t g:Fx):Option Bool:=
 bif (decide (kind<1)) then
 some true
 else
 bif (decide (kind>5)) then
 some true
 else
 Ey (f32 (t.1,t.2)) fun r9=>
 bif (!r9) then
 some true
 else
 Ey (f32 (g.1,g.2)) fun r10=>
 some (!r10)
def f42_j2 (kind:Int) (t g:Fx):Option (Sum Unit Unit):=
 Ey (f42_j3 kind t g) fun z8=>
 bif z8 then
 some (Sum.inr ())
 else
 some (Sum.inl ())
def f42_l4 (kind:Int) (t g:Fx) (go:Jv→Option LI) (i:Int) (l5:LI):Option LI:=
 bif (decide (i<l5.length)) then
 E9 (0≤i∧i<g.2.length)<|
 E9 (0≤i∧i<t.2.length)<|
 Ey (f91 kind (rd 0 t.2 i)) fun q9_14=>
 Ey (f66 (rd 0 g.2 i) q9_14) fun q9_15=>
 E9 (0≤i∧i<l5.length)<|
 go ((i64.wrap (i+1)),(List.set l5 (Int.toNat i) q9_15))
 else
 some l5
def f42 (kind:Int) (t g:Fx):Option Gl:=
 Ey (f42_j2 kind t g) fun z5=>
 Fz z5 (fun z5a=>
 Ey (f26 t.1 g.1) fun r11=>
 bif (!r11) then
 some ((4:Int),[],[])
 else
 Ey (f11 t.1 (0:Int)) fun r12=>
 Ey (Fp (fun go x=>f42_l4 kind t g go x.1 x.2) Fv ((0:Int),r12.2)) fun z13=>
 some ((0:Int),r12.1,z13)) (fun z5b=>
 some ((1:Int),[],[]))
def C42:Con:=⟨Int×PTz10,Gl,0,fun x=>[.dat T2 x.1,.dat T3 x.2.1,.dat T3 x.2.2],NX,fun x=>f42 x.1 x.2.1 x.2.2,fun y=>[.raw true [(.osl 0),(.osl 1)],.dat T2 y.1],fun y=>[(0,.arr 3 T2 y.2.1),(1,.arr 42 T2 y.2.2)],2⟩
theorem V42 kind t g y (q:f42 kind t g=some y):VC Tryz.f42 C42 (kind,t,g) y:=by
 unfold f42 at q
 refine OL ?_
 obtain ⟨z5,hz5,q⟩:=bE q
 let e0:LE:=fun zz=>(0,.dat T2 kind)::(4,P0 0 0)::(5,P0 1 0)::(6,P0 2 0)::zz
 let h1:LH:=fun zz=>(0,.cells [(.d T1 t.1),(.d T1 t.2)])::(1,.cells [(.d T1 g.1),(.d T1 g.2)])::(2,.cells [N0,N0])::zz
 refine OQ ⟨Sum.elim (fun z5a=>[(0,⟨e0 [],h1 [],3⟩)]) (fun z5b=>[(1,⟨[(6,P0 0 0),(7,D0 1)],[(0,.cells [N0,N0])],1⟩)]) z5,?_,?_⟩
 ·have q:=hz5
  clear hz5
  unfold f42_j2 at q
  obtain ⟨z8,hz8,q⟩:=bE q
  refine OQ ⟨[(0,⟨e0 [(25,.dat .bool z8)],h1 [],3⟩)],?_,?_⟩
  ·have q:=hz8
   clear hz8
   unfold f42_j3 at q
   refine cN q (fun q=>?_) (fun q=>?_)
   ·refine gY (cF (cN q (fun q=>?_) (fun q=>?_)))
    ·refine gY ?_
     obtain ⟨r9,h,q⟩:=bE q
     refine OL (cA H32 (t.1,t.2) h rfl (R2 (K0 (gY (cF (cN q (fun q=>?_) (fun q=>?_)))))))
     ·refine gY ?_
      obtain ⟨r10,h,q⟩:=bE q
      refine OL (cA H32 (g.1,g.2) h rfl (R2 (K0 (gY (cF ?_)))))
      cases sE q
      refine E4 I3 (R3 (AI (R3 TV) (R3 TV)))
     refine gN (gN (cT ?_))
     cases sE q
     refine E4 I3 (R3 (AI (R3 TV) (R3 TV)))
    refine gN (gN (cT (gN (gN (gN (cT ?_))))))
    cases sE q
    refine E4 I3 (R3 (AI (R3 TV) (R3 TV)))
   refine gN (cT (gN (gN (gN (cT (gN (gN (gN (cT ?_)))))))))
   cases sE q
   refine E4 I3 (R3 (AI (R3 TV) (R3 TV)))
  refine AI (cI q (fun q=>?_) (fun q=>?_)) TV
  ·refine OL (OL ?_)
   cases sE q
   refine E4 (iuR [3]) (R2 (AJ (AI rfl TV)))
  cases sE q
  refine E4 I3 (R2 (AI (R3 TV) (R3 TV)))
 rcases z5 with z5a | z5b
 ·dsimp only [Fz] at q
  refine AI (OL (OL ?_)) TV
  obtain ⟨r11,h,q⟩:=bE q
  refine OL (cA H26 (t.1,g.1) h rfl (R2 (K0 (cI q (fun q=>?_) (fun q=>?_)))))
  ·refine OL (OL ?_)
   cases sE q
   refine AI rfl (E4 (iuR [0,0]) (R2 (AJ (R2 TV))))
  refine OL ?_
  obtain ⟨r12,h,q⟩:=bE q
  refine OL (cA H11 (t.1,(0:Int)) h rfl (R2 (K0 (OL (OL (OL ?_))))))
  obtain ⟨z13,h,q⟩:=bE q
  refine lJ h (fun x=>⟨e0 [(8,P0 3 0),(9,.dat T2 x.1)],h1 [(3,.cells [(.osl 4),(.osl 5)]),(4,.arr 3 T2 r12.1),(5,.arr 42 T2 x.2)],6⟩) (fun z=>[(2,⟨[(6,P0 0 0),(8,P0 1 0)],[(0,.cells [N0,N0]),(1,.cells [(.osl 2),(.osl 3)]),(2,.arr 3 T2 r12.1),(3,.arr 42 T2 z)],4⟩)]) (E4 (iuR [1,2,3,6,4,5]) (R3 (AI (R4 TV) (R6 TV)))) (fun m=>F6 (fun i=>fun l5 z q=>?_)) ?_
  ·have q:f42_l4 kind t g _ i l5=some z:=q
   unfold f42_l4 at q
   refine OL (OL (cI q (fun q=>?_) (fun q=>?_)))
   ·refine OL (EI (tU 0 14 (.alt 14 (.alt 15 (.take 16 (.alt 17 .done .done)) .done) .done)) (EI [] (EI [] (AI rfl (gI q (fun q=>?_))))))
    refine gI q (fun q=>?_)
    refine AI TV ?_
    obtain ⟨q9_14,h,q⟩:=bE q
    refine OL (cA H91 (kind,(rd 0 t.2 i)) h rfl (R2 (K0 (AI TV ?_))))
    obtain ⟨q9_15,h,q⟩:=bE q
    refine OL (cA H66 ((rd 0 g.2 i),q9_14) h rfl (R2 (K0 (gI q (fun q=>?_)))))
    refine AI TV (OL (EI ((i64.wrap (i+1)),(List.set l5 (Int.toNat i) q9_15)) (AI q (E4 I6 (R3 (AI (R4 TV) (R6 TV)))))))
   cases sE q
   refine E4 (iuR [3,4,5,6]) (AI rfl (AI (R2 TV) (R4 TV)))
  refine AI (OL (OL ?_)) TV
  cases sE q
  refine AI rfl (E4 (iuR [3,4]) (R2 (AJ (R2 TV))))
 dsimp only [Fz] at q
 refine AI ?_ TV
 cases sE q
 refine AI rfl (E4 (iuR [0,0]) (R2 (AJ (R2 TV))))
theorem H42:HI C42 42:=hI Tryz.f42 rfl fun x=>V42 x.1 x.2.1 x.2.2
def f43_j3 (g k:Fx) (step long:Int):Option Bool:=
 Ey (f32 (g.1,g.2)) fun r9=>
 bif (!r9) then
 some true
 else
 Ey (f32 (k.1,k.2)) fun r10=>
 bif (!r10) then
 some true
 else
 bif (decide (step<1)) then
 some true
 else
 bif (decide (step>64)) then
 some true
 else
 bif (decide (long<1)) then
 some true
 else
 some (decide (long>4096))
def f43_j2 (g k:Fx) (step long:Int):Option (Sum Unit Unit):=
 Ey (f43_j3 g k step long) fun z8=>
 bif z8 then
 some (Sum.inr ())
 else
 some (Sum.inl ())
def f43_j6 (g k:Fx) (step long:Int):Option Bool:=
 bif ((g.1.length:Int) != 2) then
 some true
 else
 bif ((k.1.length:Int) != 3) then
 some true
 else
 E9 (0≤(0:Int)∧0<(g.1.length:Int))<|
 E9 (0≤(0:Int)∧0<(k.1.length:Int))<|
 bif ((rd 0 g.1 0) != (rd 0 k.1 0)) then
 some true
 else
 E9 (0≤(2:Int)∧2<(k.1.length:Int))<|
 bif (decide ((rd 0 k.1 2)>long)) then
 some true
 else
 E9 (0≤(1:Int)∧1<(g.1.length:Int))<|
 E9 (0≤(2:Int)∧2<(k.1.length:Int))<|
 E9 (step≠0)<|
 some ((rd 0 g.1 1) != (i64.wrap ((i64.wrap (Int.tdiv (i64.wrap (long-(rd 0 k.1 2))) step))+1)))
def f43_j5 (g k:Fx) (step long:Int):Option (Sum Unit Unit):=
 Ey (f43_j6 g k step long) fun z13=>
 bif z13 then
 some (Sum.inr ())
 else
 some (Sum.inl ())
def f43_j72 (k:Fx) (step l j:Int):Option (Sum Unit Unit):=
 bif (decide ((i64.wrap (l-(i64.wrap (j*step))))<0)) then
 some (Sum.inr ())
 else
 bif (decide ((i64.wrap (l-(i64.wrap (j*step))))≥(rd 0 k.1 2))) then
 some (Sum.inr ())
 else
 some (Sum.inl ())
def f43_l73 (g k:Fx) (step x_ l j:Int) (go:(Int×Lc)→Option Lc) (i:Int) (c4_0_2:Bool) (c4_1_2 c4_2_2 c4_3_2 c4_4_2:Int):Option Lc:=
 bif (decide (i<(rd 0 g.1 0))) then
 E9 (0≤(i64.wrap ((i64.wrap (i*(rd 0 g.1 1)))+j))∧(i64.wrap ((i64.wrap (i*(rd 0 g.1 1)))+j))<g.2.length)<|
 E9 (0≤(i64.wrap ((i64.wrap ((i64.wrap ((i64.wrap (i*(rd 0 k.1 1)))+x_))*(rd 0 k.1 2)))+(i64.wrap (l-(i64.wrap (j*step))))))∧(i64.wrap ((i64.wrap ((i64.wrap ((i64.wrap (i*(rd 0 k.1 1)))+x_))*(rd 0 k.1 2)))+(i64.wrap (l-(i64.wrap (j*step))))))<k.2.length)<|
 Ey (f86 (rd 0 g.2 (i64.wrap ((i64.wrap (i*(rd 0 g.1 1)))+j))) (rd 0 k.2 (i64.wrap ((i64.wrap ((i64.wrap ((i64.wrap (i*(rd 0 k.1 1)))+x_))*(rd 0 k.1 2)))+(i64.wrap (l-(i64.wrap (j*step)))))))) fun q24_23=>
 Ey (f85 c4_0_2 c4_1_2 c4_2_2 c4_3_2 c4_4_2 q24_23.1 q24_23.2.1 q24_23.2.2.1 q24_23.2.2.2.1 q24_23.2.2.2.2) fun q24_24=>
 go ((i64.wrap (i+1)),q24_24.1,q24_24.2.1,q24_24.2.2.1,q24_24.2.2.2.1,q24_24.2.2.2.2)
 else
 some (c4_0_2,c4_1_2,c4_2_2,c4_3_2,c4_4_2)
def f43_l71 (g k:Fx) (step x_ l:Int) (go:(Int×Lc)→Option Lc) (j:Int) (c4_0:Bool) (c4_1 c4_2 c4_3 c4_4:Int):Option Lc:=
 bif (decide (j<(rd 0 g.1 1))) then
 Ey (f43_j72 k step l j) fun z80=>
 Fz z80 (fun z80a=>
 Ey (Fp (fun go x=>f43_l73 g k step x_ l j go x.1 x.2.1 x.2.2.1 x.2.2.2.1 x.2.2.2.2.1 x.2.2.2.2.2) Fv ((0:Int),c4_0,c4_1,c4_2,c4_3,c4_4)) fun z81=>
 go ((i64.wrap (j+1)),z81.1,z81.2.1,z81.2.2.1,z81.2.2.2.1,z81.2.2.2.2)) (fun z80b=>
 go ((i64.wrap (j+1)),c4_0,c4_1,c4_2,c4_3,c4_4))
 else
 some (c4_0,c4_1,c4_2,c4_3,c4_4)
def f43_l66 (g k:Fx) (step long x_:Int) (go:Jv→Option LI) (l:Int) (l5_2:LI):Option LI:=
 bif (decide (l<long)) then
 Ey (Fp (fun go x=>f43_l71 g k step x_ l go x.1 x.2.1 x.2.2.1 x.2.2.2.1 x.2.2.2.2.1 x.2.2.2.2.2) Fv ((0:Int),false,(0:Int),(0:Int),(0:Int),(0:Int))) fun z79=>
 Ey (f87 z79.1 z79.2.1 z79.2.2.1 z79.2.2.2.1 z79.2.2.2.2 (32:Int)) fun q25_8=>
 Ey (f39 q25_8.1 q25_8.2.1 q25_8.2.2.1 q25_8.2.2.2.1 q25_8.2.2.2.2) fun q25_9=>
 E9 (0≤(i64.wrap ((i64.wrap (x_*long))+l))∧(i64.wrap ((i64.wrap (x_*long))+l))<l5_2.length)<|
 go ((i64.wrap (l+1)),(List.set l5_2 (Int.toNat (i64.wrap ((i64.wrap (x_*long))+l))) q25_9))
 else
 some l5_2
def f43_l51 (g k:Fx) (step long:Int) (go:Jv→Option LI) (x_:Int) (l5:LI):Option LI:=
 bif (decide (x_<(rd 0 k.1 1))) then
 Ey (Fp (fun go x=>f43_l66 g k step long x_ go x.1 x.2) Fv ((0:Int),l5)) fun z74=>
 go ((i64.wrap (x_+1)),z74)
 else
 some l5
def f43 (g k:Fx) (step long:Int):Option Gl:=
 Ey (f43_j2 g k step long) fun z5=>
 Fz z5 (fun z5a=>
 Ey (f43_j5 g k step long) fun z12=>
 Fz z12 (fun z12a=>
 E9 (0≤(0:Int)∧0<(g.1.length:Int))<|
 E9 (0≤(1:Int)∧1<(g.1.length:Int))<|
 E9 (0≤(1:Int)∧1<(k.1.length:Int))<|
 E9 (0≤(2:Int)∧2<(k.1.length:Int))<|
 Ey (f67 ([(rd 0 k.1 1),long])) fun q5_19=>
 bif (!q5_19) then
 some ((2:Int),[],[])
 else
 Ey (f11 ([(rd 0 k.1 1),long]) (0:Int)) fun r14=>
 Ey (Fp (fun go x=>f43_l51 g k step long go x.1 x.2) Fv ((0:Int),r14.2)) fun z59=>
 some ((0:Int),r14.1,z59)) (fun z12b=>
 some ((4:Int),[],[]))) (fun z5b=>
 some ((1:Int),[],[]))
def C43:Con:=⟨Fx×Fx×Gm,Gl,0,fun x=>[.dat T3 x.1,.dat T3 x.2.1,.dat T2 x.2.2.1,.dat T2 x.2.2.2],NX,fun x=>f43 x.1 x.2.1 x.2.2.1 x.2.2.2,fun y=>[.raw true [(.osl 0),(.osl 1)],.dat T2 y.1],fun y=>[(0,.arr 3 T2 y.2.1),(1,.arr 42 T2 y.2.2)],2⟩
theorem V43 g k step long y (q:f43 g k step long=some y):VC Tryz.f43 C43 (g,k,step,long) y:=by
 unfold f43 at q
 refine OL ?_
 obtain ⟨z5,hz5,q⟩:=bE q
 let e0:LE:=fun zz=>(2,.dat T2 step)::(3,.dat T2 long)::(4,P0 0 0)::(5,P0 1 0)::(8,P0 2 0)::zz
 let h1:LH:=fun zz=>(0,.cells [(.d T1 g.1),(.d T1 g.2)])::(1,.cells [(.d T1 k.1),(.d T1 k.2)])::(2,.cells [N0,N0])::zz
 refine OQ ⟨Sum.elim (fun z5a=>[(0,⟨e0 [],h1 [],3⟩)]) (fun z5b=>[(1,⟨[(8,P0 0 0),(9,D0 1)],[(0,.cells [N0,N0])],1⟩)]) z5,?_,?_⟩
 ·have q:=hz5
  clear hz5
  unfold f43_j2 at q
  obtain ⟨z8,hz8,q⟩:=bE q
  refine OQ ⟨[(0,⟨e0 [(44,.dat .bool z8)],h1 [],3⟩)],?_,?_⟩
  ·have q:=hz8
   clear hz8
   unfold f43_j3 at q
   obtain ⟨r9,h,q⟩:=bE q
   refine OL (cA H32 (g.1,g.2) h rfl (R2 (K0 (cN q (fun q=>?_) (fun q=>?_)))))
   ·refine gY ?_
    obtain ⟨r10,h,q⟩:=bE q
    refine OL (cA H32 (k.1,k.2) h rfl (R2 (K0 (gY (cF (cN q (fun q=>?_) (fun q=>?_)))))))
    ·refine gY (cF (cN q (fun q=>?_) (fun q=>?_)))
     ·refine gY (cF (cN q (fun q=>?_) (fun q=>?_)))
      ·refine gY (cF (cN q (fun q=>?_) (fun q=>?_)))
       ·refine gY (cF ?_)
        cases sE q
        refine E4 I3 (R4 (AI (R3 TV) (R3 TV)))
       refine gN (cT ?_)
       cases sE q
       refine E4 I3 (R4 (AI (R3 TV) (R3 TV)))
      refine gN (cT (gN (gN (cT ?_))))
      cases sE q
      refine E4 I3 (R4 (AI (R3 TV) (R3 TV)))
     refine gN (cT (gN (gN (cT (gN (gN (cT ?_)))))))
     cases sE q
     refine E4 I3 (R4 (AI (R3 TV) (R3 TV)))
    refine gN (cT (gN (gN (cT (gN (gN (cT (gN (gN (cT ?_))))))))))
    cases sE q
    refine E4 I3 (R4 (AI (R3 TV) (R3 TV)))
   refine gN (gN (cT (gN (gN (cT (gN (gN (cT (gN (gN (cT (gN (gN (cT ?_))))))))))))))
   cases sE q
   refine E4 I3 (R4 (AI (R3 TV) (R3 TV)))
  refine AI (cI q (fun q=>?_) (fun q=>?_)) TV
  ·refine OL (OL ?_)
   cases sE q
   refine E4 (iuR [3]) (R2 (AJ (AI rfl TV)))
  cases sE q
  refine E4 I3 (R3 (AI (R3 TV) (R3 TV)))
 rcases z5 with z5a | z5b
 ·dsimp only [Fz] at q
  refine AI ?_ TV
  obtain ⟨z12,hz12,q⟩:=bE q
  refine OQ ⟨Sum.elim (fun z12a=>[(0,⟨e0 [],h1 [],3⟩)]) (fun z12b=>[(1,⟨[(8,P0 0 0),(9,D0 4)],[(0,.cells [N0,N0])],1⟩)]) z12,?_,?_⟩
  ·have q:=hz12
   clear hz12
   unfold f43_j5 at q
   obtain ⟨z13,hz13,q⟩:=bE q
   refine OQ ⟨[(0,⟨e0 [(90,.dat .bool z13)],h1 [],3⟩)],?_,?_⟩
   ·have q:=hz13
    clear hz13
    unfold f43_j6 at q
    refine EI (tU 0 45 .done) (EI [] (EI [] (AI rfl (cN q (fun q=>?_) (fun q=>?_)))))
    ·refine gY (gY (gY (cF (cN q (fun q=>?_) (fun q=>?_)))))
     ·refine gY (gY (gI q (fun q=>?_)))
      refine gY (gY (gY (gY (gI q (fun q=>?_)))))
      refine gY (gY (cF (cN q (fun q=>?_) (fun q=>?_))))
      ·refine gY (gY (gI q (fun q=>?_)))
       refine gY (gY (gY (cF (cN q (fun q=>?_) (fun q=>?_)))))
       ·refine gY (gY (gI q (fun q=>?_)))
        refine gY (gY (gY (gY (gY (gI q (fun q=>?_))))))
        refine gY (gY (gY (gY (gI q (fun q=>?_)))))
        refine gY (gY (cF ?_))
        cases sE q
        refine E4 I3 (R4 (AI (R3 TV) (R3 TV)))
       refine gN (gN (gN (gN (gN (gN (gN (gN (gN (gN (gN (gN (gN (cT ?_)))))))))))))
       cases sE q
       refine E4 I3 (R4 (AI (R3 TV) (R3 TV)))
      refine gN (gN (gN (gN (gN (cT (gN (gN (gN (gN (gN (gN (gN (gN (gN (gN (gN (gN (gN (gN (cT ?_))))))))))))))))))))
      cases sE q
      refine E4 I3 (R4 (AI (R3 TV) (R3 TV)))
     refine gN (gN (gN (gN (gN (gN (gN (gN (cT (gN (gN (gN (gN (gN (gN (cT (gN (gN (gN (gN (gN (gN (gN (gN (gN (gN (gN (gN (gN (gN (cT ?_))))))))))))))))))))))))))))))
     cases sE q
     refine E4 I3 (R4 (AI (R3 TV) (R3 TV)))
    refine gN (gN (gN (cT (gN (gN (gN (gN (gN (gN (gN (gN (gN (cT (gN (gN (gN (gN (gN (gN (cT (gN (gN (gN (gN (gN (gN (gN (gN (gN (gN (gN (gN (gN (gN (cT ?_)))))))))))))))))))))))))))))))))))
    cases sE q
    refine E4 I3 (R4 (AI (R3 TV) (R3 TV)))
   refine AI (cI q (fun q=>?_) (fun q=>?_)) TV
   ·refine OL (OL ?_)
    cases sE q
    refine E4 (iuR [3]) (R2 (AJ (AI rfl TV)))
   cases sE q
   refine E4 I3 (R3 (AI (R3 TV) (R3 TV)))
  rcases z12 with z12a | z12b
  ·dsimp only [Fz] at q
   refine AI (OL (EI (tU 0 20 .done) (EI [] (EI [] (AI rfl (gI q (fun q=>?_))))))) TV
   refine gI q (fun q=>?_)
   refine gI q (fun q=>?_)
   refine gI q (fun q=>?_)
   refine OL (OL (OL ?_))
   obtain ⟨q5_19,h,q⟩:=bE q
   refine OL (cD H67 [(rd 0 k.1 1),long] h rfl (AI rfl (AI (fun _=>rfl) (R2 (AI TV (AI TV (cI q (fun q=>?_) (fun q=>?_))))))))
   ·refine OL (OL ?_)
    cases sE q
    refine AI rfl (E4 (iuR [0,0]) (R2 (AJ (R2 TV))))
   refine OL (OL ?_)
   obtain ⟨r14,h,q⟩:=bE q
   refine OL (cD H11 ([(rd 0 k.1 1),long],(0:Int)) h rfl (R2 (AI (fun _=>rfl) (R2 (AI TV (AI TV (OL (OL (OL ?_)))))))))
   obtain ⟨z59,hz59,q⟩:=bE q
   let e2:LE:=fun zz=>e0 ((10,.dat T2 (rd 0 g.1 0))::(11,.dat T2 (rd 0 g.1 1))::(12,.dat T2 (rd 0 k.1 1))::(13,.dat T2 (rd 0 k.1 2))::(14,P0 3 0)::zz)
   let h3:LH:=fun zz=>h1 ((3,.cells [(.osl 4),(.osl 5)])::(4,.arr 3 T2 r14.1)::zz)
   refine lJ hz59 (fun x=>⟨e2 [(15,.dat T2 x.1)],h3 [(5,.arr 42 T2 x.2)],6⟩) (fun z=>[(2,⟨[(8,P0 0 0),(14,P0 1 0)],[(0,.cells [N0,N0]),(1,.cells [(.osl 2),(.osl 3)]),(2,.arr 3 T2 r14.1),(3,.arr 42 T2 z)],4⟩)]) (E4 (iuR [1,2,3,8,6,7]) (R8 (AI (R4 TV) (R6 TV)))) (fun m=>F6 (fun x_=>fun l5 z q=>?_)) ?_
   ·have q:f43_l51 g k step long _ x_ l5=some z:=q
    unfold f43_l51 at q
    refine OL (OL (cI q (fun q=>?_) (fun q=>?_)))
    ·refine OL (OL ?_)
     obtain ⟨z74,hz74,q⟩:=bE q
     let e4:LE:=fun zz=>e2 ((15,.dat T2 x_)::zz)
     refine lJ hz74 (fun x=>⟨e4 [(16,.dat T2 x.1)],h3 [(5,.arr 42 T2 x.2)],6⟩) (fun z=>[(4,⟨e4 [],h3 [(5,.arr 42 T2 z)],6⟩)]) (E4 I6 (R9 (AI (R4 TV) (R6 TV)))) (fun m=>F6 (fun l=>fun l5_2 z q=>?_)) ?_
     ·have q:f43_l66 g k step long x_ _ l l5_2=some z:=q
      unfold f43_l66 at q
      refine OL (OL (cI q (fun q=>?_) (fun q=>?_)))
      ·refine OL (OL (OL (OL (OL ?_))))
       obtain ⟨z79,hz79,q⟩:=bE q
       let e5:LE:=fun zz=>e4 ((16,.dat T2 l)::(17,P0 4 0)::zz)
       let h6:LH:=fun zz=>h1 ((3,.cells [(.osl 5),(.osl 6)])::zz)
       refine lJ hz79 (fun x=>⟨e5 [(18,.dat T2 x.1)],h6 [(4,.cells [(.d .bool x.2.1),(.d T4 x.2.2.1),(.d T4 x.2.2.2.1),(.d T4 x.2.2.2.2.1),(.d T4 x.2.2.2.2.2)]),(5,.arr 3 T2 r14.1),(6,.arr 42 T2 l5_2)],7⟩) (fun z=>[(6,⟨e5 [],h6 [(4,.cells [(.d .bool z.1),(.d T4 z.2.1),(.d T4 z.2.2.1),(.d T4 z.2.2.2.1),(.d T4 z.2.2.2.2)]),(5,.arr 3 T2 r14.1),(6,.arr 42 T2 l5_2)],7⟩)]) (E4 (iuR [1,2,3,4,7,5,6]) (R10 (AI (R5 TV) (R7 TV)))) (fun m=>F6 (fun j=>F6 (fun c4_0=>F6 (fun c4_1=>F6 (fun c4_2=>F6 (fun c4_3=>fun c4_4 z q=>?_)))))) ?_
       ·have q:f43_l71 g k step x_ l _ j c4_0 c4_1 c4_2 c4_3 c4_4=some z:=q
        unfold f43_l71 at q
        refine OL (OL (cI q (fun q=>?_) (fun q=>?_)))
        ·refine OL (OL ?_)
         obtain ⟨z80,hz80,q⟩:=bE q
         let e7:LE:=fun zz=>e5 ((18,.dat T2 j)::(19,.dat T2 (i64.wrap (l-(i64.wrap (j*step)))))::zz)
         let h8:LH:=fun zz=>h6 ((4,.cells [(.d .bool c4_0),(.d T4 c4_1),(.d T4 c4_2),(.d T4 c4_3),(.d T4 c4_4)])::(5,.arr 3 T2 r14.1)::(6,.arr 42 T2 l5_2)::zz)
         refine OQ ⟨Sum.elim (fun z80a=>[(0,⟨e7 [],h8 [],7⟩)]) (fun z80b=>[(7,⟨e5 [(18,.dat T2 j)],h8 [],7⟩)]) z80,?_,?_⟩
         ·have q:=hz80
          clear hz80
          unfold f43_j72 at q
          refine OL (cN q (fun q=>?_) (fun q=>?_))
          ·refine gY (gY (cF (cI q (fun q=>?_) (fun q=>?_))))
           ·cases sE q
            refine E4 I7 (R10 (AI (R5 TV) (R7 TV)))
           cases sE q
           refine E4 I7 (R11 (AI (R5 TV) (R7 TV)))
          refine gN (gN (cT (cT ?_)))
          cases sE q
          refine E4 I7 (R10 (AI (R5 TV) (R7 TV)))
         rcases z80 with z80a | z80b
         ·dsimp only [Fz] at q
          refine AI (OL ?_) TV
          obtain ⟨z81,h,q⟩:=bE q
          refine lJ h (fun x=>⟨e7 [(20,.dat T2 x.1)],h6 [(4,.cells [(.d .bool x.2.1),(.d T4 x.2.2.1),(.d T4 x.2.2.2.1),(.d T4 x.2.2.2.2.1),(.d T4 x.2.2.2.2.2)]),(5,.arr 3 T2 r14.1),(6,.arr 42 T2 l5_2)],7⟩) (fun z=>[(8,⟨e5 [(18,.dat T2 j)],h6 [(4,.cells [(.d .bool z.1),(.d T4 z.2.1),(.d T4 z.2.2.1),(.d T4 z.2.2.2.1),(.d T4 z.2.2.2.2)]),(5,.arr 3 T2 r14.1),(6,.arr 42 T2 l5_2)],7⟩)]) (E4 I7 (R12 (AI (R5 TV) (R7 TV)))) (fun m=>F6 (fun i=>F6 (fun c4_0_2=>F6 (fun c4_1_2=>F6 (fun c4_2_2=>F6 (fun c4_3_2=>fun c4_4_2 z q=>?_)))))) ?_
          ·have q:f43_l73 g k step x_ l j _ i c4_0_2 c4_1_2 c4_2_2 c4_3_2 c4_4_2=some z:=q
           unfold f43_l73 at q
           refine OL (OL (cI q (fun q=>?_) (fun q=>?_)))
           ·refine OL (EI (tU 0 23 (.alt 23 (.alt 24 (.alt 25 .done .done) .done) .done)) (EI [(25,[4])] (EI [] (AI rfl (gI q (fun q=>?_))))))
            refine gI q (fun q=>?_)
            refine AI TV ?_
            obtain ⟨q24_23,h,q⟩:=bE q
            refine OL (cA H86 ((rd 0 g.2 (i64.wrap ((i64.wrap (i*(rd 0 g.1 1)))+j))),(rd 0 k.2 (i64.wrap ((i64.wrap ((i64.wrap ((i64.wrap (i*(rd 0 k.1 1)))+x_))*(rd 0 k.1 2)))+(i64.wrap (l-(i64.wrap (j*step)))))))) h rfl (R2 (K0 (AI TV ?_))))
            obtain ⟨q24_24,h,q⟩:=bE q
            refine OL (cA H85 (c4_0_2,c4_1_2,c4_2_2,c4_3_2,c4_4_2,q24_23.1,q24_23.2.1,q24_23.2.2.1,q24_23.2.2.2.1,q24_23.2.2.2.2) h rfl (AI NH (R2 (AI (R2 TV) (AI TV (AI TV (OL (EI ((i64.wrap (i+1)),q24_24.1,q24_24.2.1,q24_24.2.2.1,q24_24.2.2.2.1,q24_24.2.2.2.2) (AI q (E4 I7 (R12 (AI (R5 TV) (R7 TV)))))))))))))
           cases sE q
           refine E4 I7 (R10 (AI (R5 TV) (R7 TV)))
          refine AI (EI ((i64.wrap (j+1)),z81.1,z81.2.1,z81.2.2.1,z81.2.2.2.1,z81.2.2.2.2) (AI q (E4 I7 (R10 (AI (R5 TV) (R7 TV)))))) TV
         dsimp only [Fz] at q
         refine AI (EI ((i64.wrap (j+1)),c4_0,c4_1,c4_2,c4_3,c4_4) (AI q (E4 I7 (R10 (AI (R5 TV) (R7 TV)))))) TV
        cases sE q
        refine E4 I7 (R9 (AI (R5 TV) (R7 TV)))
       refine AI (EI (tU 0 8 (.alt 8 (.alt 9 (.take 10 (.alt 11 .done .done)) .done) .done)) (EI [] (EI [] (AI rfl (AI TV ?_))))) TV
       obtain ⟨q25_8,h,q⟩:=bE q
       refine OL (cA H87 (z79.1,z79.2.1,z79.2.2.1,z79.2.2.2.1,z79.2.2.2.2,(32:Int)) h rfl (AI rfl (AI NH (R2 (AJ (AI TV (AI TV ?_)))))))
       obtain ⟨q25_9,h,q⟩:=bE q
       refine OL (cA H39 (q25_8.1,q25_8.2.1,q25_8.2.2.1,q25_8.2.2.2.1,q25_8.2.2.2.2) h rfl (AI NH (R2 (AJ (AI TV (gI q (fun q=>?_)))))))
       refine AI TV (OL (EI ((i64.wrap (l+1)),(List.set l5_2 (Int.toNat (i64.wrap ((i64.wrap (x_*long))+l))) q25_9)) (AI q (E4 (iuR [1,2,3,4,6,7]) (R9 (AI (R4 TV) (R6 TV)))))))
      cases sE q
      refine E4 I6 (R8 (AI (R4 TV) (R6 TV)))
     refine AI (EI ((i64.wrap (x_+1)),z74) (AI q (E4 I6 (R8 (AI (R4 TV) (R6 TV)))))) TV
    cases sE q
    refine E4 (iuR [3,4,5,6]) (AI rfl (AI (R2 TV) (R4 TV)))
   refine AI (OL (OL ?_)) TV
   cases sE q
   refine AI rfl (E4 (iuR [3,4]) (R2 (AJ (R2 TV))))
  dsimp only [Fz] at q
  refine AI ?_ TV
  cases sE q
  refine AI rfl (E4 (iuR [0,0]) (R2 (AJ (R2 TV))))
 dsimp only [Fz] at q
 refine AI ?_ TV
 cases sE q
 refine AI rfl (E4 (iuR [0,0]) (R2 (AJ (R2 TV))))
theorem H43:HI C43 43:=hI Tryz.f43 rfl fun x=>V43 x.1 x.2.1 x.2.2.1 x.2.2.2
def f44_j3 (g a:Fx) (step w:Int):Option Bool:=
 Ey (f32 (g.1,g.2)) fun r9=>
 bif (!r9) then
 some true
 else
 Ey (f32 (a.1,a.2)) fun r10=>
 bif (!r10) then
 some true
 else
 bif (decide (step<1)) then
 some true
 else
 bif (decide (step>64)) then
 some true
 else
 bif (decide (w<1)) then
 some true
 else
 some (decide (w>4096))
def f44_j2 (g a:Fx) (step w:Int):Option (Sum Unit Unit):=
 Ey (f44_j3 g a step w) fun z8=>
 bif z8 then
 some (Sum.inr ())
 else
 some (Sum.inl ())
def f44_j6 (g a:Fx) (step w:Int):Option Bool:=
 bif ((g.1.length:Int) != 2) then
 some true
 else
 bif ((a.1.length:Int) != 2) then
 some true
 else
 E9 (0≤(1:Int)∧1<(a.1.length:Int))<|
 bif (decide (w>(rd 0 a.1 1))) then
 some true
 else
 E9 (0≤(1:Int)∧1<(g.1.length:Int))<|
 E9 (0≤(1:Int)∧1<(a.1.length:Int))<|
 E9 (step≠0)<|
 some ((rd 0 g.1 1) != (i64.wrap ((i64.wrap (Int.tdiv (i64.wrap ((rd 0 a.1 1)-w)) step))+1)))
def f44_j5 (g a:Fx) (step w:Int):Option (Sum Unit Unit):=
 Ey (f44_j6 g a step w) fun z13=>
 bif z13 then
 some (Sum.inr ())
 else
 some (Sum.inl ())
def f44_l46 (g a:Fx) (step i x_ y_:Int) (go:(Int×Lc)→Option Lc) (j:Int) (c4_0:Bool) (c4_1 c4_2 c4_3 c4_4:Int):Option Lc:=
 bif (decide (j<(rd 0 g.1 1))) then
 E9 (0≤(i64.wrap ((i64.wrap (i*(rd 0 g.1 1)))+j))∧(i64.wrap ((i64.wrap (i*(rd 0 g.1 1)))+j))<g.2.length)<|
 E9 (0≤(i64.wrap ((i64.wrap ((i64.wrap (x_*(rd 0 a.1 1)))+(i64.wrap (j*step))))+y_))∧(i64.wrap ((i64.wrap ((i64.wrap (x_*(rd 0 a.1 1)))+(i64.wrap (j*step))))+y_))<a.2.length)<|
 Ey (f86 (rd 0 g.2 (i64.wrap ((i64.wrap (i*(rd 0 g.1 1)))+j))) (rd 0 a.2 (i64.wrap ((i64.wrap ((i64.wrap (x_*(rd 0 a.1 1)))+(i64.wrap (j*step))))+y_)))) fun q22_23=>
 Ey (f85 c4_0 c4_1 c4_2 c4_3 c4_4 q22_23.1 q22_23.2.1 q22_23.2.2.1 q22_23.2.2.2.1 q22_23.2.2.2.2) fun q22_24=>
 go ((i64.wrap (j+1)),q22_24.1,q22_24.2.1,q22_24.2.2.1,q22_24.2.2.2.1,q22_24.2.2.2.2)
 else
 some (c4_0,c4_1,c4_2,c4_3,c4_4)
def f44_l45 (g a:Fx) (step w i x_:Int) (go:Jv→Option LI) (y_:Int) (l5_3:LI):Option LI:=
 bif (decide (y_<w)) then
 Ey (Fp (fun go x=>f44_l46 g a step i x_ y_ go x.1 x.2.1 x.2.2.1 x.2.2.2.1 x.2.2.2.2.1 x.2.2.2.2.2) Fv ((0:Int),false,(0:Int),(0:Int),(0:Int),(0:Int))) fun z54=>
 Ey (f87 z54.1 z54.2.1 z54.2.2.1 z54.2.2.2.1 z54.2.2.2.2 (32:Int)) fun q23_12=>
 Ey (f39 q23_12.1 q23_12.2.1 q23_12.2.2.1 q23_12.2.2.2.1 q23_12.2.2.2.2) fun q23_13=>
 E9 (0≤(i64.wrap ((i64.wrap ((i64.wrap ((i64.wrap (i*(rd 0 a.1 0)))+x_))*w))+y_))∧(i64.wrap ((i64.wrap ((i64.wrap ((i64.wrap (i*(rd 0 a.1 0)))+x_))*w))+y_))<l5_3.length)<|
 go ((i64.wrap (y_+1)),(List.set l5_3 (Int.toNat (i64.wrap ((i64.wrap ((i64.wrap ((i64.wrap (i*(rd 0 a.1 0)))+x_))*w))+y_))) q23_13))
 else
 some l5_3
def f44_l42 (g a:Fx) (step w i:Int) (go:Jv→Option LI) (x_:Int) (l5_2:LI):Option LI:=
 bif (decide (x_<(rd 0 a.1 0))) then
 Ey (Fp (fun go x=>f44_l45 g a step w i x_ go x.1 x.2) Fv ((0:Int),l5_2)) fun z53=>
 go ((i64.wrap (x_+1)),z53)
 else
 some l5_2
def f44_l33 (g a:Fx) (step w:Int) (go:Jv→Option LI) (i:Int) (l5:LI):Option LI:=
 bif (decide (i<(rd 0 g.1 0))) then
 Ey (Fp (fun go x=>f44_l42 g a step w i go x.1 x.2) Fv ((0:Int),l5)) fun z50=>
 go ((i64.wrap (i+1)),z50)
 else
 some l5
def f44 (g a:Fx) (step w:Int):Option Gl:=
 Ey (f44_j2 g a step w) fun z5=>
 Fz z5 (fun z5a=>
 Ey (f44_j5 g a step w) fun z12=>
 Fz z12 (fun z12a=>
 E9 (0≤(0:Int)∧0<(g.1.length:Int))<|
 E9 (0≤(1:Int)∧1<(g.1.length:Int))<|
 E9 (0≤(0:Int)∧0<(a.1.length:Int))<|
 E9 (0≤(1:Int)∧1<(a.1.length:Int))<|
 Ey (f67 ([(rd 0 g.1 0),(rd 0 a.1 0),w])) fun q5_19=>
 bif (!q5_19) then
 some ((2:Int),[],[])
 else
 Ey (f11 ([(rd 0 g.1 0),(rd 0 a.1 0),w]) (0:Int)) fun r14=>
 Ey (Fp (fun go x=>f44_l33 g a step w go x.1 x.2) Fv ((0:Int),r14.2)) fun z41=>
 some ((0:Int),r14.1,z41)) (fun z12b=>
 some ((4:Int),[],[]))) (fun z5b=>
 some ((1:Int),[],[]))
def C44:Con:=⟨Fx×Fx×Gm,Gl,0,fun x=>[.dat T3 x.1,.dat T3 x.2.1,.dat T2 x.2.2.1,.dat T2 x.2.2.2],NX,fun x=>f44 x.1 x.2.1 x.2.2.1 x.2.2.2,fun y=>[.raw true [(.osl 0),(.osl 1)],.dat T2 y.1],fun y=>[(0,.arr 3 T2 y.2.1),(1,.arr 42 T2 y.2.2)],2⟩
theorem V44 g a step w y (q:f44 g a step w=some y):VC Tryz.f44 C44 (g,a,step,w) y:=by
 unfold f44 at q
 refine OL ?_
 obtain ⟨z5,hz5,q⟩:=bE q
 let e0:LE:=fun zz=>(2,.dat T2 step)::(3,.dat T2 w)::(4,P0 0 0)::(5,P0 1 0)::(8,P0 2 0)::zz
 let h1:LH:=fun zz=>(0,.cells [(.d T1 g.1),(.d T1 g.2)])::(1,.cells [(.d T1 a.1),(.d T1 a.2)])::(2,.cells [N0,N0])::zz
 refine OQ ⟨Sum.elim (fun z5a=>[(0,⟨e0 [],h1 [],3⟩)]) (fun z5b=>[(1,⟨[(8,P0 0 0),(9,D0 1)],[(0,.cells [N0,N0])],1⟩)]) z5,?_,?_⟩
 ·have q:=hz5
  clear hz5
  unfold f44_j2 at q
  obtain ⟨z8,hz8,q⟩:=bE q
  refine OQ ⟨[(0,⟨e0 [(43,.dat .bool z8)],h1 [],3⟩)],?_,?_⟩
  ·have q:=hz8
   clear hz8
   unfold f44_j3 at q
   obtain ⟨r9,h,q⟩:=bE q
   refine OL (cA H32 (g.1,g.2) h rfl (R2 (K0 (cN q (fun q=>?_) (fun q=>?_)))))
   ·refine gY ?_
    obtain ⟨r10,h,q⟩:=bE q
    refine OL (cA H32 (a.1,a.2) h rfl (R2 (K0 (gY (cF (cN q (fun q=>?_) (fun q=>?_)))))))
    ·refine gY (cF (cN q (fun q=>?_) (fun q=>?_)))
     ·refine gY (cF (cN q (fun q=>?_) (fun q=>?_)))
      ·refine gY (cF (cN q (fun q=>?_) (fun q=>?_)))
       ·refine gY (cF ?_)
        cases sE q
        refine E4 I3 (R4 (AI (R3 TV) (R3 TV)))
       refine gN (cT ?_)
       cases sE q
       refine E4 I3 (R4 (AI (R3 TV) (R3 TV)))
      refine gN (cT (gN (gN (cT ?_))))
      cases sE q
      refine E4 I3 (R4 (AI (R3 TV) (R3 TV)))
     refine gN (cT (gN (gN (cT (gN (gN (cT ?_)))))))
     cases sE q
     refine E4 I3 (R4 (AI (R3 TV) (R3 TV)))
    refine gN (cT (gN (gN (cT (gN (gN (cT (gN (gN (cT ?_))))))))))
    cases sE q
    refine E4 I3 (R4 (AI (R3 TV) (R3 TV)))
   refine gN (gN (cT (gN (gN (cT (gN (gN (cT (gN (gN (cT (gN (gN (cT ?_))))))))))))))
   cases sE q
   refine E4 I3 (R4 (AI (R3 TV) (R3 TV)))
  refine AI (cI q (fun q=>?_) (fun q=>?_)) TV
  ·refine OL (OL ?_)
   cases sE q
   refine E4 (iuR [3]) (R2 (AJ (AI rfl TV)))
  cases sE q
  refine E4 I3 (R3 (AI (R3 TV) (R3 TV)))
 rcases z5 with z5a | z5b
 ·dsimp only [Fz] at q
  refine AI ?_ TV
  obtain ⟨z12,hz12,q⟩:=bE q
  refine OQ ⟨Sum.elim (fun z12a=>[(0,⟨e0 [],h1 [],3⟩)]) (fun z12b=>[(1,⟨[(8,P0 0 0),(9,D0 4)],[(0,.cells [N0,N0])],1⟩)]) z12,?_,?_⟩
  ·have q:=hz12
   clear hz12
   unfold f44_j5 at q
   obtain ⟨z13,hz13,q⟩:=bE q
   refine OQ ⟨[(0,⟨e0 [(78,.dat .bool z13)],h1 [],3⟩)],?_,?_⟩
   ·have q:=hz13
    clear hz13
    unfold f44_j6 at q
    refine EI (tU 0 34 .done) (EI [] (EI [] (AI rfl (cN q (fun q=>?_) (fun q=>?_)))))
    ·refine gY (gY (gY (cF (cN q (fun q=>?_) (fun q=>?_)))))
     ·refine gY (gY (gY (gI q (fun q=>?_))))
      refine gY (gY (cF (cN q (fun q=>?_) (fun q=>?_))))
      ·refine gY (gY (gI q (fun q=>?_)))
       refine gY (gY (gY (gY (gI q (fun q=>?_)))))
       refine gY (gY (gY (gY (gY (gI q (fun q=>?_))))))
       refine gY (gY (cF ?_))
       cases sE q
       refine E4 I3 (R4 (AI (R3 TV) (R3 TV)))
      refine gN (gN (gN (gN (gN (gN (gN (gN (gN (gN (gN (gN (gN (cT ?_)))))))))))))
      cases sE q
      refine E4 I3 (R4 (AI (R3 TV) (R3 TV)))
     refine gN (gN (gN (gN (gN (cT (gN (gN (gN (gN (gN (gN (gN (gN (gN (gN (gN (gN (gN (gN (cT ?_))))))))))))))))))))
     cases sE q
     refine E4 I3 (R4 (AI (R3 TV) (R3 TV)))
    refine gN (gN (gN (cT (gN (gN (gN (gN (gN (gN (cT (gN (gN (gN (gN (gN (gN (gN (gN (gN (gN (gN (gN (gN (gN (cT ?_)))))))))))))))))))))))))
    cases sE q
    refine E4 I3 (R4 (AI (R3 TV) (R3 TV)))
   refine AI (cI q (fun q=>?_) (fun q=>?_)) TV
   ·refine OL (OL ?_)
    cases sE q
    refine E4 (iuR [3]) (R2 (AJ (AI rfl TV)))
   cases sE q
   refine E4 I3 (R3 (AI (R3 TV) (R3 TV)))
  rcases z12 with z12a | z12b
  ·dsimp only [Fz] at q
   refine AI (OL (EI (tU 0 20 .done) (EI [] (EI [] (AI rfl (gI q (fun q=>?_))))))) TV
   refine gI q (fun q=>?_)
   refine gI q (fun q=>?_)
   refine gI q (fun q=>?_)
   refine OL (OL (OL ?_))
   obtain ⟨q5_19,h,q⟩:=bE q
   refine OL (cD H67 [(rd 0 g.1 0),(rd 0 a.1 0),w] h rfl (AI rfl (AI (fun _=>rfl) (R2 (AI TV (AI TV (cI q (fun q=>?_) (fun q=>?_))))))))
   ·refine OL (OL ?_)
    cases sE q
    refine AI rfl (E4 (iuR [0,0]) (R2 (AJ (R2 TV))))
   refine OL (OL ?_)
   obtain ⟨r14,h,q⟩:=bE q
   refine OL (cD H11 ([(rd 0 g.1 0),(rd 0 a.1 0),w],(0:Int)) h rfl (R2 (AI (fun _=>rfl) (R2 (AI TV (AI TV (OL (OL (OL ?_)))))))))
   obtain ⟨z41,hz41,q⟩:=bE q
   let e2:LE:=fun zz=>e0 ((10,.dat T2 (rd 0 g.1 0))::(11,.dat T2 (rd 0 g.1 1))::(12,.dat T2 (rd 0 a.1 0))::(13,.dat T2 (rd 0 a.1 1))::(14,P0 3 0)::zz)
   let h3:LH:=fun zz=>h1 ((3,.cells [(.osl 4),(.osl 5)])::(4,.arr 3 T2 r14.1)::zz)
   refine lJ hz41 (fun x=>⟨e2 [(15,.dat T2 x.1)],h3 [(5,.arr 42 T2 x.2)],6⟩) (fun z=>[(2,⟨[(8,P0 0 0),(14,P0 1 0)],[(0,.cells [N0,N0]),(1,.cells [(.osl 2),(.osl 3)]),(2,.arr 3 T2 r14.1),(3,.arr 42 T2 z)],4⟩)]) (E4 (iuR [1,2,3,8,6,7]) (R8 (AI (R4 TV) (R6 TV)))) (fun m=>F6 (fun i=>fun l5 z q=>?_)) ?_
   ·have q:f44_l33 g a step w _ i l5=some z:=q
    unfold f44_l33 at q
    refine OL (OL (cI q (fun q=>?_) (fun q=>?_)))
    ·refine OL (OL ?_)
     obtain ⟨z50,hz50,q⟩:=bE q
     let e4:LE:=fun zz=>e2 ((15,.dat T2 i)::zz)
     refine lJ hz50 (fun x=>⟨e4 [(16,.dat T2 x.1)],h3 [(5,.arr 42 T2 x.2)],6⟩) (fun z=>[(4,⟨e4 [],h3 [(5,.arr 42 T2 z)],6⟩)]) (E4 I6 (R9 (AI (R4 TV) (R6 TV)))) (fun m=>F6 (fun x_=>fun l5_2 z q=>?_)) ?_
     ·have q:f44_l42 g a step w i _ x_ l5_2=some z:=q
      unfold f44_l42 at q
      refine OL (OL (cI q (fun q=>?_) (fun q=>?_)))
      ·refine OL (OL ?_)
       obtain ⟨z53,h,q⟩:=bE q
       refine lJ h (fun x=>⟨e4 [(16,.dat T2 x_),(17,.dat T2 x.1)],h3 [(5,.arr 42 T2 x.2)],6⟩) (fun z=>[(6,⟨e4 [(16,.dat T2 x_)],h3 [(5,.arr 42 T2 z)],6⟩)]) (E4 I6 (R10 (AI (R4 TV) (R6 TV)))) (fun m=>F6 (fun y_=>fun l5_3 z q=>?_)) ?_
       ·have q:f44_l45 g a step w i x_ _ y_ l5_3=some z:=q
        unfold f44_l45 at q
        refine OL (OL (cI q (fun q=>?_) (fun q=>?_)))
        ·refine OL (OL (OL (OL (OL ?_))))
         obtain ⟨z54,h,q⟩:=bE q
         refine lJ h (fun x=>⟨e4 [(16,.dat T2 x_),(17,.dat T2 y_),(18,P0 4 0),(19,.dat T2 x.1)],h1 [(3,.cells [(.osl 5),(.osl 6)]),(4,.cells [(.d .bool x.2.1),(.d T4 x.2.2.1),(.d T4 x.2.2.2.1),(.d T4 x.2.2.2.2.1),(.d T4 x.2.2.2.2.2)]),(5,.arr 3 T2 r14.1),(6,.arr 42 T2 l5_3)],7⟩) (fun z=>[(8,⟨e4 [(16,.dat T2 x_),(17,.dat T2 y_),(18,P0 4 0)],h1 [(3,.cells [(.osl 5),(.osl 6)]),(4,.cells [(.d .bool z.1),(.d T4 z.2.1),(.d T4 z.2.2.1),(.d T4 z.2.2.2.1),(.d T4 z.2.2.2.2)]),(5,.arr 3 T2 r14.1),(6,.arr 42 T2 l5_3)],7⟩)]) (E4 (iuR [1,2,3,4,7,5,6]) (R11 (AI (R5 TV) (R7 TV)))) (fun m=>F6 (fun j=>F6 (fun c4_0=>F6 (fun c4_1=>F6 (fun c4_2=>F6 (fun c4_3=>fun c4_4 z q=>?_)))))) ?_
         ·have q:f44_l46 g a step i x_ y_ _ j c4_0 c4_1 c4_2 c4_3 c4_4=some z:=q
          unfold f44_l46 at q
          refine OL (OL (cI q (fun q=>?_) (fun q=>?_)))
          ·refine OL (EI (tU 0 23 (.alt 23 (.alt 24 (.alt 25 .done .done) .done) .done)) (EI [(25,[4])] (EI [] (AI rfl (gI q (fun q=>?_))))))
           refine gI q (fun q=>?_)
           refine AI TV ?_
           obtain ⟨q22_23,h,q⟩:=bE q
           refine OL (cA H86 ((rd 0 g.2 (i64.wrap ((i64.wrap (i*(rd 0 g.1 1)))+j))),(rd 0 a.2 (i64.wrap ((i64.wrap ((i64.wrap (x_*(rd 0 a.1 1)))+(i64.wrap (j*step))))+y_)))) h rfl (R2 (K0 (AI TV ?_))))
           obtain ⟨q22_24,h,q⟩:=bE q
           refine OL (cA H85 (c4_0,c4_1,c4_2,c4_3,c4_4,q22_23.1,q22_23.2.1,q22_23.2.2.1,q22_23.2.2.2.1,q22_23.2.2.2.2) h rfl (AI NH (R2 (AI (R2 TV) (AI TV (AI TV (OL (EI ((i64.wrap (j+1)),q22_24.1,q22_24.2.1,q22_24.2.2.1,q22_24.2.2.2.1,q22_24.2.2.2.2) (AI q (E4 I7 (R11 (AI (R5 TV) (R7 TV)))))))))))))
          cases sE q
          refine E4 I7 (R10 (AI (R5 TV) (R7 TV)))
         refine AI (EI (tU 0 12 (.alt 12 (.alt 13 (.take 14 (.alt 15 .done .done)) .done) .done)) (EI [] (EI [] (AI rfl (AI TV ?_))))) TV
         obtain ⟨q23_12,h,q⟩:=bE q
         refine OL (cA H87 (z54.1,z54.2.1,z54.2.2.1,z54.2.2.2.1,z54.2.2.2.2,(32:Int)) h rfl (AI rfl (AI NH (R2 (AJ (AI TV (AI TV ?_)))))))
         obtain ⟨q23_13,h,q⟩:=bE q
         refine OL (cA H39 (q23_12.1,q23_12.2.1,q23_12.2.2.1,q23_12.2.2.2.1,q23_12.2.2.2.2) h rfl (AI NH (R2 (AJ (AI TV (gI q (fun q=>?_)))))))
         refine AI TV (OL (EI ((i64.wrap (y_+1)),(List.set l5_3 (Int.toNat (i64.wrap ((i64.wrap ((i64.wrap ((i64.wrap (i*(rd 0 a.1 0)))+x_))*w))+y_))) q23_13)) (AI q (E4 (iuR [1,2,3,4,6,7]) (R10 (AI (R4 TV) (R6 TV)))))))
        cases sE q
        refine E4 I6 (R9 (AI (R4 TV) (R6 TV)))
       refine AI (EI ((i64.wrap (x_+1)),z53) (AI q (E4 I6 (R9 (AI (R4 TV) (R6 TV)))))) TV
      cases sE q
      refine E4 I6 (R8 (AI (R4 TV) (R6 TV)))
     refine AI (EI ((i64.wrap (i+1)),z50) (AI q (E4 I6 (R8 (AI (R4 TV) (R6 TV)))))) TV
    cases sE q
    refine E4 (iuR [3,4,5,6]) (AI rfl (AI (R2 TV) (R4 TV)))
   refine AI (OL (OL ?_)) TV
   cases sE q
   refine AI rfl (E4 (iuR [3,4]) (R2 (AJ (R2 TV))))
  dsimp only [Fz] at q
  refine AI ?_ TV
  cases sE q
  refine AI rfl (E4 (iuR [0,0]) (R2 (AJ (R2 TV))))
 dsimp only [Fz] at q
 refine AI ?_ TV
 cases sE q
 refine AI rfl (E4 (iuR [0,0]) (R2 (AJ (R2 TV))))
theorem H44:HI C44 44:=hI Tryz.f44 rfl fun x=>V44 x.1 x.2.1 x.2.2.1 x.2.2.2
end Go.Proofs
