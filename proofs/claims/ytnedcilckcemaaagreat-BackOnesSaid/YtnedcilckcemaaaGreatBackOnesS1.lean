import Derived.Test.YtnedcilckcemaaaGreatBackOnesS0
set_option linter.unusedVariables false
set_option maxRecDepth 100000
set_option maxHeartbeats 8000000
namespace Go.Proofs
open Go.AM
open IntKind (i64 u64 i32 u32 i16 u16 i8 u8)
def f118_j3 (a:Fx) (order:LI):Option Bool:=
 Ey (f28 (a.1,a.2)) fun r9=>
 bif (!r9) then
 some true
 else
 Ey (f152 order (a.1.length:Int)) fun r10=>
 some (!r10)
def f118_j2 (a:Fx) (order:LI):Option (Sum Unit Unit):=
 Ey (f118_j3 a order) fun z8=>
 bif z8 then
 some (Sum.inr ())
 else
 some (Sum.inl ())
def f118_l4 (a:Fx) (order:LI) (go:Jv→Option LI) (v36:Int) (l2:LI):Option LI:=
 bif (decide (v36<order.length)) then
 E9 (0≤v36∧v36<order.length)<|
 E9 (0≤(rd 0 order v36)∧(rd 0 order v36)<a.1.length)<|
 E9 (0≤v36∧v36<l2.length)<|
 go ((i64.wrap (v36+1)),(List.set l2 (Int.toNat v36) (rd 0 a.1 (rd 0 order v36))))
 else
 some l2
def f118_l8 (order:LI) (q21_9:Bool×LI) (go:Jv→Option LI) (v72:Int) (l5_2:LI):Option LI:=
 bif (decide (v72<order.length)) then
 E9 (0≤v72∧v72<order.length)<|
 E9 (0≤v72∧v72<q21_9.2.length)<|
 E9 (0≤(rd 0 order v72)∧(rd 0 order v72)<l5_2.length)<|
 go ((i64.wrap (v72+1)),(List.set l5_2 (Int.toNat (rd 0 order v72)) (rd 0 q21_9.2 v72)))
 else
 some l5_2
def f118_l7 (a:Fx) (order z11:LI) (r12:Gl) (go:Jv→Option LI) (v58:Int) (l5:LI):Option LI:=
 bif (decide (v58<r12.2.2.length)) then
 Ey (f119 z11 v58) fun q21_9=>
 E9 (0≤(order.length:Int)∧(order.length:Int)≤order.length∧Int.toNat (order.length:Int)*8≤140737488355328)<|
 Ey (Fp (fun go x=>f118_l8 order q21_9 go x.1 x.2) Fv ((0:Int),(List.replicate (Int.toNat (order.length:Int)) (0:Int)))) fun z19=>
 Ey (f120 a.1 z19) fun r20=>
 E9 (0≤r20.1∧r20.1<a.2.length)<|
 E9 (0≤v58∧v58<l5.length)<|
 go ((i64.wrap (v58+1)),(List.set l5 (Int.toNat v58) (rd 0 a.2 r20.1)))
 else
 some l5
def f118 (a:Fx) (order:LI):Option Gl:=
 Ey (f118_j2 a order) fun z5=>
 Fz z5 (fun z5a=>
 E9 (0≤(order.length:Int)∧(order.length:Int)≤order.length∧Int.toNat (order.length:Int)*8≤140737488355328)<|
 Ey (Fp (fun go x=>f118_l4 a order go x.1 x.2) Fv ((0:Int),(List.replicate (Int.toNat (order.length:Int)) (0:Int)))) fun z11=>
 Ey (f22 z11 (0:Int)) fun r12=>
 Ey (Fp (fun go x=>f118_l7 a order z11 r12 go x.1 x.2) Fv ((0:Int),r12.2.2)) fun z18=>
 some ((0:Int),r12.2.1,z18)) (fun z5b=>
 some ((1:Int),[],[]))
def C118:Con:=⟨Fx×LI,Gl,0,fun x=>[.dat T3 x.1,.dat T1 x.2],NX,fun x=>f118 x.1 x.2,fun y=>[.raw true [(.osl 0),(.osl 1)],.dat T2 y.1],fun y=>[(0,.arr 3 T2 y.2.1),(1,.arr 42 T2 y.2.2)],2⟩
theorem V118 a order y (q:f118 a order=some y):VC Tryz.f118 C118 (a,order) y:=by
 unfold f118 at q
 refine OL ?_
 obtain ⟨z5,hz5,q⟩:=bE q
 let e0:LE:=fun zz=>(1,.dat T1 order)::(2,P0 0 0)::(4,P0 1 0)::zz
 let h1:LH:=fun zz=>(0,.cells [(.d T1 a.1),(.d T1 a.2)])::(1,.cells [N0,N0])::zz
 refine OQ ⟨Sum.elim (fun z5a=>[(0,⟨e0 [],h1 [],2⟩)]) (fun z5b=>[(1,⟨[(4,P0 0 0),(5,D0 1)],[(0,.cells [N0,N0])],1⟩)]) z5,?_,?_⟩
 ·have q:=hz5
  clear hz5
  unfold f118_j2 at q
  obtain ⟨z8,hz8,q⟩:=bE q
  refine OQ ⟨[(0,⟨e0 [(29,.dat .bool z8)],h1 [],2⟩)],?_,?_⟩
  ·have q:=hz8
   clear hz8
   unfold f118_j3 at q
   obtain ⟨r9,h,q⟩:=bE q
   refine OL (cA H28 (a.1,a.2) h rfl (R2 (K0 (cN q (fun q=>?_) (fun q=>?_)))))
   ·refine gY (gY (gY (gY ?_)))
    obtain ⟨r10,h,q⟩:=bE q
    refine OL (cA H152 (order,(a.1.length:Int)) h rfl (R2 (K0 (gY (cF ?_)))))
    cases sE q
    refine E4 I2 (R3 (AI (R2 TV) (R2 TV)))
   refine gN (gN (gN (gN (gN (cT ?_)))))
   cases sE q
   refine E4 I2 (R3 (AI (R2 TV) (R2 TV)))
  refine AI (cI q (fun q=>?_) (fun q=>?_)) TV
  ·refine OL (OL ?_)
   cases sE q
   refine E4 (iuR [2]) (R2 (AJ (AI rfl TV)))
  cases sE q
  refine E4 I2 (R2 (AI (R2 TV) (R2 TV)))
 rcases z5 with z5a | z5b
 ·dsimp only [Fz] at q
  refine AI (OL (gI q (fun q=>?_))) TV
  refine OL (OL ?_)
  obtain ⟨z11,h,q⟩:=bE q
  refine lJ h (fun x=>⟨e0 [(6,O0 2),(34,.dat T1 order),(35,.dat T2 (order.length:Int)),(36,.dat T2 x.1)],h1 [(2,.arr 3 T2 x.2)],3⟩) (fun z=>[(2,⟨e0 [(6,O0 2)],h1 [(2,.arr 3 T2 z)],3⟩)]) (E4 I3 (R5 (AI (R3 TV) (R3 TV)))) (fun m=>F6 (fun v36=>fun l2 z q=>?_)) ?_
  ·have q:f118_l4 a order _ v36 l2=some z:=q
   unfold f118_l4 at q
   refine OL (OL (cI q (fun q=>?_) (fun q=>?_)))
   ·refine OL (OL (gI q (fun q=>?_)))
    refine gI q (fun q=>?_)
    refine gI q (fun q=>?_)
    refine OL (EI ((i64.wrap (v36+1)),(List.set l2 (Int.toNat v36) (rd 0 a.1 (rd 0 order v36)))) (AI q (E4 I3 (R5 (AI (R3 TV) (R3 TV))))))
   cases sE q
   refine E4 I3 (R2 (AI (R3 TV) (R3 TV)))
  refine AI (OL ?_) TV
  obtain ⟨r12,h,q⟩:=bE q
  refine OL (cD H22 (z11,(0:Int)) h rfl (R2 (AI (fun _=>rfl) (R2 (AI TV (AI TV (OL (OL (OL ?_)))))))))
  obtain ⟨z18,h,q⟩:=bE q
  refine lJ h (fun x=>⟨e0 [(6,O0 2),(9,P0 3 0),(57,.dat T2 (r12.2.2.length:Int)),(58,.dat T2 x.1)],h1 [(2,.arr 3 T2 z11),(3,.cells [(.osl 4),(.osl 5)]),(4,.arr 3 T2 r12.2.1),(5,.arr 42 T2 x.2)],6⟩) (fun z=>[(4,⟨[(4,P0 0 0),(9,P0 1 0)],[(0,.cells [N0,N0]),(1,.cells [(.osl 2),(.osl 3)]),(2,.arr 3 T2 r12.2.1),(3,.arr 42 T2 z)],4⟩)]) (E4 (iuR [1,2,3,6,4,5]) (R4 (AI (R4 TV) (R6 TV)))) (fun m=>F6 (fun v58=>fun l5 z q=>?_)) ?_
  ·have q:f118_l7 a order z11 r12 _ v58 l5=some z:=q
   unfold f118_l7 at q
   refine OL (OL (cI q (fun q=>?_) (fun q=>?_)))
   ·refine OL (OL (OL ?_))
    obtain ⟨q21_9,h,q⟩:=bE q
    refine OL (cD H119 (z11,v58) h rfl (R2 (AI (fun _=>rfl) (R2 (AI TV (AI TV (OL (gI q (fun q=>?_)))))))))
    refine OL (OL ?_)
    obtain ⟨z19,h,q⟩:=bE q
    refine lJ h (fun x=>⟨e0 [(6,O0 2),(9,P0 3 0),(11,.dat T2 v58),(12,O0 4),(14,O0 5),(57,.dat T2 (r12.2.2.length:Int)),(58,.dat T2 v58),(70,.dat T1 order),(71,.dat T2 (order.length:Int)),(72,.dat T2 x.1)],h1 [(2,.arr 3 T2 z11),(3,.cells [(.osl 6),(.osl 7)]),(4,.arr 3 T2 q21_9.2),(5,.arr 3 T2 x.2),(6,.arr 3 T2 r12.2.1),(7,.arr 42 T2 l5)],8⟩) (fun z=>[(6,⟨e0 [(6,O0 2),(9,P0 3 0),(11,.dat T2 v58),(14,O0 4),(57,.dat T2 (r12.2.2.length:Int)),(58,.dat T2 v58)],h1 [(2,.arr 3 T2 z11),(3,.cells [(.osl 5),(.osl 6)]),(4,.arr 3 T2 z),(5,.arr 3 T2 r12.2.1),(6,.arr 42 T2 l5)],7⟩)]) (E4 (iuR [1,2,3,4,7,8,5,6]) (R8 (AI (R6 TV) (R8 TV)))) (fun m=>F6 (fun v72=>fun l5_2 z q=>?_)) ?_
    ·have q:f118_l8 order q21_9 _ v72 l5_2=some z:=q
     unfold f118_l8 at q
     refine OL (OL (cI q (fun q=>?_) (fun q=>?_)))
     ·refine OL (OL (gI q (fun q=>?_)))
      refine gI q (fun q=>?_)
      refine gI q (fun q=>?_)
      refine OL (EI ((i64.wrap (v72+1)),(List.set l5_2 (Int.toNat (rd 0 order v72)) (rd 0 q21_9.2 v72))) (AI q (E4 I8 (R8 (AI (R6 TV) (R8 TV))))))
     cases sE q
     refine E4 (iuR [1,2,3,4,6,7,8]) (R5 (AI (R5 TV) (R7 TV)))
    refine AI (OL ?_) TV
    obtain ⟨r20,h,q⟩:=bE q
    refine OL (cD H120 (a.1,z19) h rfl (R2 (AI (fun _=>rfl) (R2 (AI TV (AI TV (EI (tU 0 9 (.alt 9 .done .done)) (EI [] (EI [] (AI rfl (gI q (fun q=>?_))))))))))))
    refine gI q (fun q=>?_)
    refine AI TV (OL (EI ((i64.wrap (v58+1)),(List.set l5 (Int.toNat v58) (rd 0 a.2 r20.1))) (AI q (E4 (iuR [1,2,3,4,6,7]) (R4 (AI (R4 TV) (R6 TV)))))))
   cases sE q
   refine E4 (iuR [2,4,5,6]) (AI rfl (AI (R2 TV) (R4 TV)))
  refine AI (OL (OL ?_)) TV
  cases sE q
  refine AI rfl (E4 (iuR [3,4]) (R2 (AJ (R2 TV))))
 dsimp only [Fz] at q
 refine AI ?_ TV
 cases sE q
 refine AI rfl (E4 (iuR [0,0]) (R2 (AJ (R2 TV))))
theorem H118:HI C118 118:=hI Tryz.f118 rfl fun x=>V118 x.1 x.2
def f74 (a:Fx):Option Gl:=
 Ey (f28 (a.1,a.2)) fun r1=>
 bif (!r1) then
 some ((1:Int),[],[])
 else
 Ey (f117 (a.1,a.2)) fun r2=>
 bif (!r2) then
 some ((4:Int),[],[])
 else
 Ey (f118 (a.1,a.2) ([(1:Int),(0:Int)])) fun r3=>
 some (r3.1,r3.2.1,r3.2.2)
def C74:Con:=⟨Fx,Gl,0,fun x=>[.dat T3 x],NX,fun x=>f74 x,fun y=>[.raw true [(.osl 0),(.osl 1)],.dat T2 y.1],fun y=>[(0,.arr 3 T2 y.2.1),(1,.arr 42 T2 y.2.2)],2⟩
theorem V74 a y (q:f74 a=some y):VC Tryz.f74 C74 a y:=by
 unfold f74 at q
 refine OL (OL (OL ?_))
 obtain ⟨r1,h,q⟩:=bE q
 refine OL (cA H28 (a.1,a.2) h rfl (R2 (K0 (cI q (fun q=>?_) (fun q=>?_)))))
 ·refine OL (OL ?_)
  cases sE q
  refine AI rfl (E4 (iuR [0,0]) (R2 (AJ (R2 TV))))
 refine OL ?_
 obtain ⟨r2,h,q⟩:=bE q
 refine OL (cA H117 (a.1,a.2) h rfl (R2 (K0 (cI q (fun q=>?_) (fun q=>?_)))))
 ·refine OL (OL ?_)
  cases sE q
  refine AI rfl (E4 (iuR [0,0]) (R2 (AJ (R2 TV))))
 refine OL (OL ?_)
 obtain ⟨r3,h,q⟩:=bE q
 refine OL (cD H118 ((a.1,a.2),[(1:Int),(0:Int)]) h rfl (R3 (AI (fun _=>rfl) (R2 (AI TV (AI TV (OL ?_)))))))
 cases sE q
 refine AI rfl (E4 (iuR [4,5]) (R2 (AJ (R2 TV))))
theorem H74:HI C74 74:=hI Tryz.f74 rfl fun x=>V74 x
def f124 (v:Int):Option Int:=
 bif (decide (v<0)) then
 some (u64.wrap (0-(u64.wrap v)))
 else
 some (u64.wrap v)
def C124:Con:=⟨Int,Int,0,fun x=>[.dat T2 x],NX,fun x=>f124 x,fun y=>[.dat T4 y],NX,0⟩
theorem V124 v y (q:f124 v=some y):VC Tryz.f124 C124 v y:=by
 unfold f124 at q
 refine OL (OL (OL (cI q (fun q=>?_) (fun q=>?_))))
 ·cases sE q
  refine OL (AI rfl (E4 [] (R2 (AI TV TV))))
 cases sE q
 refine OL (AI rfl (E4 [] (R2 (AI TV TV))))
theorem H124:HI C124 124:=hI Tryz.f124 rfl fun x=>V124 x
def f154 (a b:Gm):Option Gm:=
 Ey (sub64 a.2 b.2 (0:Int)) fun r1=>
 Ey (sub64 (u64.wrap a.1) (u64.wrap b.1) r1.2) fun r2=>
 some ((i64.wrap r2.1),r1.1)
def C154:Con:=⟨Gm×Gm,Gm,0,fun x=>[.dat T5 x.1,.dat T5 x.2],NX,fun x=>f154 x.1 x.2,fun y=>[.raw true [(.d T2 y.1),(.d T4 y.2)]],NX,0⟩
theorem V154 a b y (q:f154 a b=some y):VC Tryz.f154 C154 (a,b) y:=by
 unfold f154 at q
 refine OL (OL ?_)
 obtain ⟨r1,h,q⟩:=bE q
 refine OQ ⟨ext3 sub64,[r1.1,r1.2],sub64_ok,AI (ext3I h) ?_⟩
 refine OL ?_
 obtain ⟨r2,h,q⟩:=bE q
 refine OQ ⟨ext3 sub64,[r2.1,r2.2],sub64_ok,AI (ext3I h) ?_⟩
 refine OL (OL ?_)
 cases sE q
 refine AI rfl (E4 [] (AI rfl (AJ TV)))
theorem H154:HI C154 154:=hI Tryz.f154 rfl fun x=>V154 x.1 x.2
def f128 (a:Gm):Option Gm:=
 Ey (f154 ((0:Int),(0:Int)) (a.1,a.2)) fun r1=>
 some (r1.1,r1.2)
def C128:Con:=⟨Gm,Gm,0,fun x=>[.dat T5 x],NX,fun x=>f128 x,fun y=>[.raw true [(.d T2 y.1),(.d T4 y.2)]],NX,0⟩
theorem V128 a y (q:f128 a=some y):VC Tryz.f128 C128 a y:=by
 unfold f128 at q
 refine OL (OL ?_)
 obtain ⟨r1,h,q⟩:=bE q
 refine OL (cA H154 (((0:Int),(0:Int)),(a.1,a.2)) h rfl (R4 (K0 (OL ?_))))
 cases sE q
 refine AI rfl (E4 [] (AI rfl (AJ TV)))
theorem H128:HI C128 128:=hI Tryz.f128 rfl fun x=>V128 x
def f157 (a b:Int):Option Gm:=
 Ey (f124 a) fun r1=>
 Ey (f124 b) fun r2=>
 Ey (f148 r1 r2) fun r3=>
 bif (!((decide (a<0))==(decide (b<0)))) then
 Ey (f128 ((i64.wrap r3.1),r3.2)) fun r4=>
 some (r4.1,r4.2)
 else
 some ((i64.wrap r3.1),r3.2)
def C157:Con:=⟨Gm,Gm,0,fun x=>[.dat T2 x.1,.dat T2 x.2],NX,fun x=>f157 x.1 x.2,fun y=>[.raw true [(.d T2 y.1),(.d T4 y.2)]],NX,0⟩
theorem V157 a b y (q:f157 a b=some y):VC Tryz.f157 C157 (a,b) y:=by
 unfold f157 at q
 refine OL (OL ?_)
 obtain ⟨r1,h,q⟩:=bE q
 refine OL (cA H124 a h rfl (AI rfl (K0 ?_)))
 obtain ⟨r2,h,q⟩:=bE q
 refine OL (cA H124 b h rfl (AI rfl (K0 ?_)))
 obtain ⟨r3,h,q⟩:=bE q
 refine OL (cA H148 (r1,r2) h rfl (R2 (K0 (OL (OL (OL (OL (cI q (fun q=>?_) (fun q=>?_)))))))))
 ·refine OL ?_
  obtain ⟨r4,h,q⟩:=bE q
  refine OL (cA H128 ((i64.wrap r3.1),r3.2) h rfl (R2 (K0 (OL ?_))))
  cases sE q
  refine AI rfl (E4 [] (AI rfl (AJ TV)))
 refine OL (OL ?_)
 cases sE q
 refine AI rfl (E4 [] (AI rfl (AJ TV)))
theorem H157:HI C157 157:=hI Tryz.f157 rfl fun x=>V157 x.1 x.2
def f135 (s_top s_low_Hi s_low_Lo a b:Int):Option PTz7:=
 Ey (f157 a b) fun q4_13=>
 Ey (Lq s_low_Lo q4_13.2 (0:Int)) fun q1_7=>
 Ey (Lq (u64.wrap s_low_Hi) (u64.wrap q4_13.1) q1_7.2) fun q2_10=>
 some ((i64.wrap (s_top+(i64.wrap ((Int.fdiv q4_13.1 (2 ^ min (Int.toNat (63:Int)) i64.bits))+(i64.wrap q2_10.2))))),(i64.wrap q2_10.1),q1_7.1)
def C135:Con:=⟨PTz9,PTz7,1,fun x=>[P0 0 0,.dat T2 x.2.2.2.1,.dat T2 x.2.2.2.2],fun x=>[(0,.cells [(.d T2 x.1),(.d T2 x.2.1),(.d T4 x.2.2.1)])],fun x=>f135 x.1 x.2.1 x.2.2.1 x.2.2.2.1 x.2.2.2.2,fun y=>[],fun y=>[(0,.cells [(.d T2 y.1),(.d T2 y.2.1),(.d T4 y.2.2)])],1⟩
theorem V135 s_top s_low_Hi s_low_Lo a b y (q:f135 s_top s_low_Hi s_low_Lo a b=some y):VE Tryz.f135 1 C135 (s_top,s_low_Hi,s_low_Lo,a,b) y:=by
 unfold f135 at q
 refine OL ?_
 obtain ⟨q4_13,h,q⟩:=bE q
 refine OL (cA H157 (a,b) h rfl (R2 (K0 (OL (OL (EI (tU 0 7 (.alt 7 (tU 8 5 .done) .done)) (EI [] (EI [] (AI rfl (AI TV ?_))))))))))
 obtain ⟨q1_7,h,q⟩:=bE q
 refine OQ ⟨ext3 Lq,[q1_7.1,q1_7.2],Lp,AI (ext3I h) ?_⟩
 refine OL (EI (tU 0 10 (.alt 10 (tU 11 5 .done) .done)) (EI [] (EI [] (AI rfl (AI TV ?_)))))
 obtain ⟨q2_10,h,q⟩:=bE q
 refine OQ ⟨ext3 Lq,[q2_10.1,q2_10.2],Lp,AI (ext3I h) ?_⟩
 refine OL (OL (EI (tU 0 13 (.alt 13 .done .done)) (EI [(13,[0])] (EI [] (AI rfl (AI (by decide) (AI TV (OL ?_))))))))
 cases sE q
 refine AI rfl (E4 (iuR [1]) (AI rfl (AI TV (AI rfl TV))))
theorem H135:HI C135 135:=hI Tryz.f135 rfl fun x=>V135 x.1 x.2.1 x.2.2.1 x.2.2.2.1 x.2.2.2.2
def f168 (a:Gm) (n:Int):Option PTz2:=
 bif (decide (n≥64)) then
 E9 (0≤(i64.wrap (n-64)))<|
 E9 (0≤(i64.wrap ((64:Int)-(i64.wrap (n-64)))))<|
 E9 (0≤(i64.wrap (n-64)))<|
 E9 (0≤(i64.wrap ((64:Int)-(i64.wrap (n-64)))))<|
 some ((Int.fdiv a.1 (2 ^ min (Int.toNat (63:Int)) i64.bits)),(u64.wrap (Int.fdiv a.1 (2 ^ min (Int.toNat (i64.wrap (n-64))) i64.bits))),(Fu IntKind.u64 (fun p q=>p||| q) (u64.wrap ((u64.wrap a.1)*2 ^ min (Int.toNat (i64.wrap ((64:Int)-(i64.wrap (n-64))))) u64.bits)) (Int.fdiv a.2 (2 ^ min (Int.toNat (i64.wrap (n-64))) u64.bits))),(u64.wrap (a.2*2 ^ min (Int.toNat (i64.wrap ((64:Int)-(i64.wrap (n-64))))) u64.bits)))
 else
 E9 (0≤n)<|
 E9 (0≤(i64.wrap ((64:Int)-n)))<|
 E9 (0≤n)<|
 E9 (0≤(i64.wrap ((64:Int)-n)))<|
 some ((Int.fdiv a.1 (2 ^ min (Int.toNat n) i64.bits)),(Fu IntKind.u64 (fun p q=>p||| q) (u64.wrap ((u64.wrap a.1)*2 ^ min (Int.toNat (i64.wrap ((64:Int)-n))) u64.bits)) (Int.fdiv a.2 (2 ^ min (Int.toNat n) u64.bits))),(u64.wrap (a.2*2 ^ min (Int.toNat (i64.wrap ((64:Int)-n))) u64.bits)),(0:Int))
def C168:Con:=⟨Gm×Int,PTz2,0,fun x=>[.dat T5 x.1,.dat T2 x.2],NX,fun x=>f168 x.1 x.2,fun y=>[.raw true [(.d T2 y.1),(.d T4 y.2.1)],.dat T4 y.2.2.1,.dat T4 y.2.2.2],NX,0⟩
theorem V168 a n y (q:f168 a n=some y):VC Tryz.f168 C168 (a,n) y:=by
 unfold f168 at q
 refine OL (OL (EI (tU 0 7 .done) (EI [] (EI [] (AI rfl (OL (OL (cI q (fun q=>?_) (fun q=>?_)))))))))
 ·refine OL (OL (EI (tU 0 9 (.alt 9 (.alt 10 .done .done) .done)) (EI [] (EI [] (AI rfl (AI (by decide) (gI q (fun q=>?_))))))))
  refine AI TV (AI TV (OL (OL (EI (tU 0 13 (.alt 13 (.take 14 (.take 15 .done)) .done)) (EI [] (EI [] (AI rfl (gI q (fun q=>?_)))))))))
  refine gI q (fun q=>?_)
  refine gI q (fun q=>?_)
  refine AI TV (OL ?_)
  cases sE q
  refine AI rfl (E4 [] (R3 (AJ TV)))
 refine OL (EI (tU 0 17 (.alt 17 (.take 18 (.take 19 .done)) .done)) (EI [] (EI [] (AI rfl (gI q (fun q=>?_))))))
 refine gI q (fun q=>?_)
 refine gI q (fun q=>?_)
 refine gI q (fun q=>?_)
 refine AI TV (OL ?_)
 cases sE q
 refine AI rfl (E4 [] (R3 (AJ TV)))
theorem H168:HI C168 168:=hI Tryz.f168 rfl fun x=>V168 x.1 x.2
def f77 (n:Int):Option Gm:=
 some ((Int.fdiv n (2 ^ min (Int.toNat (63:Int)) i64.bits)),(u64.wrap n))
def C77:Con:=⟨Int,Gm,0,fun x=>[.dat T2 x],NX,fun x=>f77 x,fun y=>[.raw true [(.d T2 y.1),(.d T4 y.2)]],NX,0⟩
theorem V77 n y (q:f77 n=some y):VC Tryz.f77 C77 n y:=by
 unfold f77 at q
 refine OL (OL (AI (by decide) (OL ?_)))
 cases sE q
 refine AI rfl (E4 [] (AI rfl (AJ TV)))
theorem H77:HI C77 77:=hI Tryz.f77 rfl fun x=>V77 x
def f142 (a b:Gm):Option Gm:=
 Ey (Lq a.2 b.2 (0:Int)) fun r1=>
 Ey (Lq (u64.wrap a.1) (u64.wrap b.1) r1.2) fun r2=>
 some ((i64.wrap r2.1),r1.1)
def C142:Con:=⟨Gm×Gm,Gm,0,fun x=>[.dat T5 x.1,.dat T5 x.2],NX,fun x=>f142 x.1 x.2,fun y=>[.raw true [(.d T2 y.1),(.d T4 y.2)]],NX,0⟩
theorem V142 a b y (q:f142 a b=some y):VC Tryz.f142 C142 (a,b) y:=by
 unfold f142 at q
 refine OL (OL ?_)
 obtain ⟨r1,h,q⟩:=bE q
 refine OQ ⟨ext3 Lq,[r1.1,r1.2],Lp,AI (ext3I h) ?_⟩
 refine OL ?_
 obtain ⟨r2,h,q⟩:=bE q
 refine OQ ⟨ext3 Lq,[r2.1,r2.2],Lp,AI (ext3I h) ?_⟩
 refine OL (OL ?_)
 cases sE q
 refine AI rfl (E4 [] (AI rfl (AJ TV)))
theorem H142:HI C142 142:=hI Tryz.f142 rfl fun x=>V142 x.1 x.2
def f158_j1 (n:Int):Option (Sum Unit Unit):=
 bif (decide (n<1)) then
 some (Sum.inr ())
 else
 bif (decide (n>126)) then
 some (Sum.inr ())
 else
 some (Sum.inl ())
def f158_j2 (q5_3:PTz2):Option Bool:=
 bif (decide (q5_3.2.2.1>9223372036854775808)) then
 some true
 else
 bif (q5_3.2.2.1==9223372036854775808) then
 bif (decide (q5_3.2.2.2>0)) then
 some true
 else
 some ((Fu IntKind.u64 (fun p q=>p&&& q) q5_3.2.1 (1:Int))==1)
 else
 some false
def f158 (a:Gm) (n:Int):Option Gm:=
 Ey (f158_j1 n) fun z1=>
 Fz z1 (fun z1a=>
 Ey (f168 (a.1,a.2) n) fun q5_3=>
 Ey (f158_j2 q5_3) fun z2=>
 bif z2 then
 Ey (f77 (1:Int)) fun q5_1=>
 Ey (f142 (q5_3.1,q5_3.2.1) (q5_1.1,q5_1.2)) fun q5_2=>
 some (q5_2.1,q5_2.2)
 else
 some (q5_3.1,q5_3.2.1)) (fun z1b=>
 some (a.1,a.2))
def C158:Con:=⟨Gm×Int,Gm,0,fun x=>[.dat T5 x.1,.dat T2 x.2],NX,fun x=>f158 x.1 x.2,fun y=>[.raw true [(.d T2 y.1),(.d T4 y.2)]],NX,0⟩
theorem V158 a n y (q:f158 a n=some y):VC Tryz.f158 C158 (a,n) y:=by
 unfold f158 at q
 refine OL ?_
 obtain ⟨z1,hz1,q⟩:=bE q
 refine OQ ⟨Sum.elim (fun z1a=>[(0,⟨[(1,.dat T2 n),(2,P0 0 0),(4,P0 1 0)],[(0,.cells [(.d T2 a.1),(.d T4 a.2)]),(1,.cells [(.d T2 (0:Int)),(.d T4 (0:Int))])],2⟩)]) (fun z1b=>[(1,⟨[(4,P0 0 0)],[(0,.cells [(.d T2 a.1),(.d T4 a.2)])],1⟩)]) z1,?_,?_⟩
 ·have q:=hz1
  clear hz1
  unfold f158_j1 at q
  refine OL (cN q (fun q=>?_) (fun q=>?_))
  ·refine gY (cF (cI q (fun q=>?_) (fun q=>?_)))
   ·refine OL (OL ?_)
    cases sE q
    refine E4 (iuR [2]) (AI rfl (AJ (AI rfl TV)))
   cases sE q
   refine E4 I2 (R2 (AI (R2 TV) (R2 TV)))
  refine gN (cT (cT (OL (OL ?_))))
  cases sE q
  refine E4 (iuR [2]) (AI rfl (AJ (AI rfl TV)))
 rcases z1 with z1a | z1b
 ·dsimp only [Fz] at q
  refine AI (OL ?_) TV
  obtain ⟨q5_3,h,q⟩:=bE q
  refine OL (cA H168 ((a.1,a.2),n) h rfl (R3 (K0 (OL (OL ?_)))))
  obtain ⟨z2,hz2,q⟩:=bE q
  refine OQ ⟨[(0,⟨[(4,P0 0 0),(5,P0 1 0),(37,.dat .bool z2)],[(0,.cells [(.d T2 (0:Int)),(.d T4 (0:Int))]),(1,.cells [(.d T2 q5_3.1),(.d T4 q5_3.2.1)])],2⟩)],?_,?_⟩
  ·have q:=hz2
   clear hz2
   unfold f158_j2 at q
   refine cN q (fun q=>?_) (fun q=>?_)
   ·refine gY (gY (cI q (fun q=>?_) (fun q=>?_)))
    ·refine gX (gX (cN q (fun q=>?_) (fun q=>?_)))
     ·refine gY (gY (gY (gX (cF (gY (cT (cF ?_)))))))
      cases sE q
      refine E4 (iuR [2,3]) (R2 (AI (R2 TV) (R2 TV)))
     refine gN (gN (gN (gX (cT (gY (cT (cF ?_)))))))
     cases sE q
     refine E4 (iuR [2,3]) (R2 (AI (R2 TV) (R2 TV)))
    refine gM (gM (gM (gY (cF (cF ?_)))))
    cases sE q
    refine E4 (iuR [2,3]) (R2 (AI (R2 TV) (R2 TV)))
   refine gN (gN (gN (cT ?_)))
   cases sE q
   refine E4 (iuR [2,3]) (R2 (AI (R2 TV) (R2 TV)))
  refine AI (cI q (fun q=>?_) (fun q=>?_)) TV
  ·refine OL (EI (.take 0 (.alt 1 (.alt 2 (.alt 3 .done .done) .done) .done)) (EI [] (EI [] (AI rfl (AI TV ?_)))))
   obtain ⟨q5_1,h,q⟩:=bE q
   refine OL (cA H77 (1:Int) h rfl (AI rfl (K0 (AI TV ?_))))
   obtain ⟨q5_2,h,q⟩:=bE q
   refine OL (cA H142 ((q5_3.1,q5_3.2.1),(q5_1.1,q5_1.2)) h rfl (R4 (K0 (AI TV (OL ?_)))))
   cases sE q
   refine AI rfl (E4 [] (AI rfl (AJ TV)))
  refine OL (OL ?_)
  cases sE q
  refine AI rfl (E4 [] (AI rfl (AJ TV)))
 dsimp only [Fz] at q
 refine AI ?_ TV
 cases sE q
 refine AI rfl (E4 [] (AI rfl (AJ TV)))
theorem H158:HI C158 158:=hI Tryz.f158 rfl fun x=>V158 x.1 x.2
def f127_j3 (a:Gm):Option Bool:=
 bif (decide (a.1>0)) then
 some true
 else
 bif (a.1==0) then
 some (decide (a.2≥9223372036854775808))
 else
 some false
def f127_j2 (a:Gm):Option (Sum Unit Int):=
 Ey (f127_j3 a) fun z3=>
 bif z3 then
 some (Sum.inr (9223372036854775807:Int))
 else
 bif (decide (a.1<(-1:Int))) then
 some (Sum.inr (-9223372036854775808:Int))
 else
 bif (a.1==(-1:Int)) then
 bif (decide (a.2<9223372036854775808)) then
 some (Sum.inr (-9223372036854775808:Int))
 else
 some (Sum.inl ())
 else
 some (Sum.inl ())
def f127 (a:Gm):Option Int:=
 Ey (f127_j2 a) fun z2=>
 Fz z2 (fun z2a=>
 some (i64.wrap a.2)) (fun z2b=>
 some z2b)
def C127:Con:=⟨Gm,Int,0,fun x=>[.dat T5 x],NX,fun x=>f127 x,fun y=>[.dat T2 y],NX,0⟩
theorem V127 a y (q:f127 a=some y):VC Tryz.f127 C127 a y:=by
 unfold f127 at q
 refine OL ?_
 obtain ⟨z2,hz2,q⟩:=bE q
 refine OQ ⟨Sum.elim (fun z2a=>[(0,⟨[(1,P0 0 0)],[(0,.cells [(.d T2 a.1),(.d T4 a.2)])],1⟩)]) (fun z2b=>[(1,⟨[(2,.dat T2 z2b)],[],0⟩)]) z2,?_,?_⟩
 ·have q:=hz2
  clear hz2
  unfold f127_j2 at q
  obtain ⟨z3,hz3,q⟩:=bE q
  refine OQ ⟨[(0,⟨[(1,P0 0 0),(3,.dat .bool z3)],[(0,.cells [(.d T2 a.1),(.d T4 a.2)])],1⟩)],?_,?_⟩
  ·have q:=hz3
   clear hz3
   unfold f127_j3 at q
   refine cN q (fun q=>?_) (fun q=>?_)
   ·refine gY (gY (gY (cI q (fun q=>?_) (fun q=>?_))))
    ·refine gX (gX (gY (cT (cF ?_))))
     cases sE q
     refine E4 (iuR [1]) (R2 (AJ (AI rfl TV)))
    refine gM (gM (gY (cF (cF ?_))))
    cases sE q
    refine E4 (iuR [1]) (R2 (AJ (AI rfl TV)))
   refine gN (gN (gN (gN (cT ?_))))
   cases sE q
   refine E4 (iuR [1]) (R2 (AJ (AI rfl TV)))
  refine AI (cI q (fun q=>?_) (fun q=>?_)) TV
  ·cases sE q
   refine OL (E4 [] (R2 (AI TV TV)))
  refine OL (cN q (fun q=>?_) (fun q=>?_))
  ·refine gY (gY (gY (cI q (fun q=>?_) (fun q=>?_))))
   ·refine gX (gX (gY (cT (cF (cI q (fun q=>?_) (fun q=>?_))))))
    ·cases sE q
     refine OL (E4 [] (R2 (AI TV TV)))
    cases sE q
    refine E4 (iuR [1]) (AI rfl (AJ (AI rfl TV)))
   refine gM (gM (gY (cF (cF (cF ?_)))))
   cases sE q
   refine E4 (iuR [1]) (AI rfl (AJ (AI rfl TV)))
  refine gN (gN (gN (gN (cT (cT (OL ?_))))))
  cases sE q
  refine E4 [] (R2 (AI TV TV))
 rcases z2 with z2a | z2b
 ·dsimp only [Fz] at q
  refine AI (OL ?_) TV
  cases sE q
  refine AI rfl (E4 [] (R2 (AI TV TV)))
 dsimp only [Fz] at q
 refine AI ?_ TV
 cases sE q
 refine AI rfl (E4 [] (R2 (AI TV TV)))
theorem H127:HI C127 127:=hI Tryz.f127 rfl fun x=>V127 x
def f136 (s_top s_low_Hi s_low_Lo n:Int):Option PTz2:=
 bif (s_top==(Int.fdiv s_low_Hi (2 ^ min (Int.toNat (63:Int)) i64.bits))) then
 Ey (f158 (s_low_Hi,s_low_Lo) n) fun q1_11=>
 Ey (f127 (q1_11.1,q1_11.2)) fun r1=>
 some (r1,s_top,s_low_Hi,s_low_Lo)
 else
 bif (decide (s_top<0)) then
 some ((-9223372036854775808:Int),s_top,s_low_Hi,s_low_Lo)
 else
 some ((9223372036854775807:Int),s_top,s_low_Hi,s_low_Lo)
def C136:Con:=⟨PTz2,PTz2,1,fun x=>[P0 0 0,.dat T2 x.2.2.2],fun x=>[(0,.cells [(.d T2 x.1),(.d T2 x.2.1),(.d T4 x.2.2.1)])],fun x=>f136 x.1 x.2.1 x.2.2.1 x.2.2.2,fun y=>[.dat T2 y.1],fun y=>[(0,.cells [(.d T2 y.2.1),(.d T2 y.2.2.1),(.d T4 y.2.2.2)])],1⟩
theorem V136 s_top s_low_Hi s_low_Lo n y (q:f136 s_top s_low_Hi s_low_Lo n=some y):VE Tryz.f136 1 C136 (s_top,s_low_Hi,s_low_Lo,n) y:=by
 unfold f136 at q
 refine OL (OL (OL (EI (tU 0 12 .done) (EI [] (EI [] (AI rfl (AI (by decide) (cI q (fun q=>?_) (fun q=>?_)))))))))
 ·refine OL ?_
  obtain ⟨q1_11,h,q⟩:=bE q
  refine OL (cA H158 ((s_low_Hi,s_low_Lo),n) h rfl (R3 (K0 ?_)))
  obtain ⟨r1,h,q⟩:=bE q
  refine OL (cA H127 (q1_11.1,q1_11.2) h rfl (R2 (K0 ?_)))
  cases sE q
  refine AI rfl (E4 (iuR [1]) (R2 (AI TV (AI rfl TV))))
 refine OL (cI q (fun q=>?_) (fun q=>?_))
 ·cases sE q
  refine OL (AI rfl (E4 (iuR [1]) (R2 (AI TV (AI rfl TV)))))
 cases sE q
 refine OL (AI rfl (E4 (iuR [1]) (R2 (AI TV (AI rfl TV)))))
theorem H136:HI C136 136:=hI Tryz.f136 rfl fun x=>V136 x.1 x.2.1 x.2.2.1 x.2.2.2
def f140_l1 (a b:LI) (go:PTz2→Option PTz7) (v12 c0_0 c0_1 c0_2:Int):Option PTz7:=
 bif (decide (v12<(if (b.length:Int)<a.length then (b.length:Int) else (a.length:Int)))) then
 E9 (0≤v12∧v12<a.length)<|
 E9 (0≤v12∧v12<b.length)<|
 Ey (f135 c0_0 c0_1 c0_2 (rd 0 a v12) (rd 0 b v12)) fun q5_8=>
 go ((i64.wrap (v12+1)),q5_8.1,q5_8.2.1,q5_8.2.2)
 else
 some (c0_0,c0_1,c0_2)
def f140 (a b:LI):Option Int:=
 Ey (Fp (fun go x=>f140_l1 a b go x.1 x.2.1 x.2.2.1 x.2.2.2) Fv ((0:Int),(0:Int),(0:Int),(0:Int))) fun z1=>
 Ey (f136 z1.1 z1.2.1 z1.2.2 (32:Int)) fun r2=>
 some r2.1
def C140:Con:=⟨Fx,Int,0,fun x=>[.dat T1 x.1,.dat T1 x.2],NX,fun x=>f140 x.1 x.2,fun y=>[.dat T2 y],NX,0⟩
theorem V140 a b y (q:f140 a b=some y):VC Tryz.f140 C140 (a,b) y:=by
 unfold f140 at q
 refine OL (OL (OL (OL ?_)))
 obtain ⟨z1,h,q⟩:=bE q
 refine lJ h (fun x=>⟨[(0,.dat T1 a),(1,.dat T1 b),(5,P0 0 0),(11,.dat T2 (if (b.length:Int)<a.length then (b.length:Int) else (a.length:Int))),(12,.dat T2 x.1)],[(0,.cells [(.d T2 x.2.1),(.d T2 x.2.2.1),(.d T4 x.2.2.2)])],1⟩) (fun z=>[(2,⟨[(5,P0 0 0)],[(0,.cells [(.d T2 z.1),(.d T2 z.2.1),(.d T4 z.2.2)])],1⟩)]) (E4 (iuR [1]) (R5 (AJ (AI rfl TV)))) (fun m=>F6 (fun v12=>F6 (fun c0_0=>F6 (fun c0_1=>fun c0_2 z q=>?_)))) ?_
 ·have q:f140_l1 a b _ v12 c0_0 c0_1 c0_2=some z:=q
  unfold f140_l1 at q
  refine OL (OL (cI q (fun q=>?_) (fun q=>?_)))
  ·refine OL (OL (EI (tU 0 8 (.alt 8 .done .done)) (EI [] (EI [] (AI rfl (gI q (fun q=>?_)))))))
   refine gI q (fun q=>?_)
   refine AI TV ?_
   obtain ⟨q5_8,h,q⟩:=bE q
   refine OL (cB H135 (c0_0,c0_1,c0_2,(rd 0 a v12),(rd 0 b v12)) (iuR [1]) false h rfl (R2 (AI NH (R2 (AJ (AJ (EI ((i64.wrap (v12+1)),q5_8.1,q5_8.2.1,q5_8.2.2) (AI q (E4 (iuR [1]) (R5 (AJ (AI rfl TV))))))))))))
  cases sE q
  refine E4 (iuR [1]) (AI rfl (AJ (AI rfl TV)))
 refine AI (OL ?_) TV
 obtain ⟨r2,h,q⟩:=bE q
 refine OL (cB H136 (z1.1,z1.2.1,z1.2.2,(32:Int)) (iuR [1]) false h rfl (AI rfl (AI NH (R2 (AJ (AJ ?_))))))
 cases sE q
 refine AI rfl (E4 [] (R2 (AI TV TV)))
theorem H140:HI C140 140:=hI Tryz.f140 rfl fun x=>V140 x.1 x.2
def f94_j4 (a b:Fx):Option Bool:=
 Ey (f28 (a.1,a.2)) fun r9=>
 bif (!r9) then
 some true
 else
 Ey (f28 (b.1,b.2)) fun r10=>
 some (!r10)
def f94_j5 (a b:Fx):Option Bool:=
 Ey (f117 (a.1,a.2)) fun q3_1=>
 bif (!q3_1) then
 some true
 else
 Ey (f117 (b.1,b.2)) fun q3_5=>
 bif (!q3_5) then
 some true
 else
 E9 (0≤(1:Int)∧1<(a.1.length:Int))<|
 E9 (0≤(0:Int)∧0<(b.1.length:Int))<|
 some ((rd 0 a.1 1) != (rd 0 b.1 0))
def f94_j3 (a b:Fx):Option (Sum Unit Int):=
 Ey (f94_j4 a b) fun z8=>
 bif z8 then
 some (Sum.inr (1:Int))
 else
 Ey (f94_j5 a b) fun z11=>
 bif z11 then
 some (Sum.inr (4:Int))
 else
 some (Sum.inl ())
def f94_l9 (a b:Fx) (r12:Gl) (v74:Int) (go:Jv→Option LI) (v78:Int) (l5_2:LI):Option LI:=
 bif (decide (v78<(rd 0 b.1 1))) then
 E9 (0≤(i64.wrap (v74*(rd 0 a.1 1)))∧(i64.wrap (v74*(rd 0 a.1 1)))≤(i64.wrap ((i64.wrap (v74+1))*(rd 0 a.1 1)))∧(i64.wrap ((i64.wrap (v74+1))*(rd 0 a.1 1)))≤a.2.length)<|
 E9 (0≤(i64.wrap (v78*(rd 0 a.1 1)))∧(i64.wrap (v78*(rd 0 a.1 1)))≤(i64.wrap ((i64.wrap (v78+1))*(rd 0 a.1 1)))∧(i64.wrap ((i64.wrap (v78+1))*(rd 0 a.1 1)))≤r12.2.2.length)<|
 Ey (f140 (List.drop (Int.toNat (i64.wrap (v74*(rd 0 a.1 1)))) (List.take (Int.toNat (i64.wrap ((i64.wrap (v74+1))*(rd 0 a.1 1)))) a.2)) (List.drop (Int.toNat (i64.wrap (v78*(rd 0 a.1 1)))) (List.take (Int.toNat (i64.wrap ((i64.wrap (v78+1))*(rd 0 a.1 1)))) r12.2.2))) fun q16_27=>
 E9 (0≤(i64.wrap ((i64.wrap (v74*(rd 0 b.1 1)))+v78))∧(i64.wrap ((i64.wrap (v74*(rd 0 b.1 1)))+v78))<l5_2.length)<|
 go ((i64.wrap (v78+1)),(List.set l5_2 (Int.toNat (i64.wrap ((i64.wrap (v74*(rd 0 b.1 1)))+v78))) q16_27))
 else
 some l5_2
def f94_l8 (a b:Fx) (r12:Gl) (go:Jv→Option LI) (v74:Int) (l5:LI):Option LI:=
 bif (decide (v74<(rd 0 a.1 0))) then
 Ey (Fp (fun go x=>f94_l9 a b r12 v74 go x.1 x.2) Fv ((0:Int),l5)) fun z16=>
 go ((i64.wrap (v74+1)),z16)
 else
 some l5
def f94 (a b:Fx):Option Gl:=
 Ey (f94_j3 a b) fun z6=>
 Fz z6 (fun z6a=>
 E9 (0≤(0:Int)∧0<(a.1.length:Int))<|
 E9 (0≤(1:Int)∧1<(a.1.length:Int))<|
 E9 (0≤(1:Int)∧1<(b.1.length:Int))<|
 Ey (f22 ([(rd 0 a.1 0),(rd 0 b.1 1)]) (0:Int)) fun q5_14=>
 bif (q5_14.1 != 0) then
 some ((2:Int),[],[])
 else
 Ey (f74 (b.1,b.2)) fun r12=>
 Ey (Fp (fun go x=>f94_l8 a b r12 go x.1 x.2) Fv ((0:Int),q5_14.2.2)) fun z15=>
 some ((0:Int),q5_14.2.1,z15)) (fun z6b=>
 some (z6b,[],[]))
def C94:Con:=⟨PTz10,Gl,0,fun x=>[.dat T3 x.1,.dat T3 x.2],NX,fun x=>f94 x.1 x.2,fun y=>[.raw true [(.osl 0),(.osl 1)],.dat T2 y.1],fun y=>[(0,.arr 3 T2 y.2.1),(1,.arr 42 T2 y.2.2)],2⟩
theorem V94 a b y (q:f94 a b=some y):VC Tryz.f94 C94 (a,b) y:=by
 unfold f94 at q
 refine OL ?_
 obtain ⟨z6,hz6,q⟩:=bE q
 let e0:LE:=fun zz=>(2,P0 0 0)::(3,P0 1 0)::(4,P0 2 0)::zz
 let h1:LH:=fun zz=>(0,.cells [(.d T1 a.1),(.d T1 a.2)])::zz
 let h2:LH:=fun zz=>h1 ((1,.cells [(.d T1 b.1),(.d T1 b.2)])::(2,.cells [N0,N0])::zz)
 refine OQ ⟨Sum.elim (fun z6a=>[(0,⟨e0 [],h2 [],3⟩)]) (fun z6b=>[(1,⟨[(4,P0 0 0),(5,.dat T2 z6b)],[(0,.cells [N0,N0])],1⟩)]) z6,?_,?_⟩
 ·have q:=hz6
  clear hz6
  unfold f94_j3 at q
  obtain ⟨z8,hz8,q⟩:=bE q
  refine OQ ⟨[(0,⟨e0 [(15,.dat .bool z8)],h2 [],3⟩)],?_,?_⟩
  ·have q:=hz8
   clear hz8
   unfold f94_j4 at q
   obtain ⟨r9,h,q⟩:=bE q
   refine OL (cA H28 (a.1,a.2) h rfl (R2 (K0 (cN q (fun q=>?_) (fun q=>?_)))))
   ·refine gY ?_
    obtain ⟨r10,h,q⟩:=bE q
    refine OL (cA H28 (b.1,b.2) h rfl (R2 (K0 (gY (cF ?_)))))
    cases sE q
    refine E4 I3 (R2 (AI (R3 TV) (R3 TV)))
   refine gN (gN (cT ?_))
   cases sE q
   refine E4 I3 (R2 (AI (R3 TV) (R3 TV)))
  refine AI (cI q (fun q=>?_) (fun q=>?_)) TV
  ·refine OL (OL ?_)
   cases sE q
   refine E4 (iuR [3]) (R2 (AJ (AI rfl TV)))
  obtain ⟨z11,hz11,q⟩:=bE q
  refine OQ ⟨[(0,⟨e0 [(25,.dat .bool z11)],h2 [],3⟩)],?_,?_⟩
  ·have q:=hz11
   clear hz11
   unfold f94_j5 at q
   refine EI (.take 0 (.alt 1 (tU 2 3 (.alt 5 (tU 6 14 .done) .done)) .done)) (EI [] (EI [] (AI rfl (AI TV ?_))))
   obtain ⟨q3_1,h,q⟩:=bE q
   refine OL (cA H117 (a.1,a.2) h rfl (R2 (K0 (cN q (fun q=>?_) (fun q=>?_)))))
   ·refine AI TV (gY ?_)
    obtain ⟨q3_5,h,q⟩:=bE q
    refine OL (cA H117 (b.1,b.2) h rfl (R2 (K0 (gY (cF (cN q (fun q=>?_) (fun q=>?_)))))))
    ·refine gY (gY (gI q (fun q=>?_)))
     refine gY (gY (gY (gY (gI q (fun q=>?_)))))
     refine gY (gY (cF ?_))
     cases sE q
     refine E4 I3 (R2 (AI (R3 TV) (R3 TV)))
    refine gN (gN (gN (gN (gN (gN (gN (gN (cT ?_))))))))
    cases sE q
    refine E4 I3 (R2 (AI (R3 TV) (R3 TV)))
   refine AI TV (gN (gN (cT (gN (gN (gN (gN (gN (gN (gN (gN (gN (cT ?_)))))))))))))
   cases sE q
   refine E4 I3 (R2 (AI (R3 TV) (R3 TV)))
  refine AI (cI q (fun q=>?_) (fun q=>?_)) TV
  ·refine OL (OL ?_)
   cases sE q
   refine E4 (iuR [3]) (R2 (AJ (AI rfl TV)))
  cases sE q
  refine E4 I3 (AI rfl (AI (R3 TV) (R3 TV)))
 rcases z6 with z6a | z6b
 ·dsimp only [Fz] at q
  refine AI (OL (EI (tU 0 15 .done) (EI [] (EI [] (AI rfl (gI q (fun q=>?_))))))) TV
  refine gI q (fun q=>?_)
  refine gI q (fun q=>?_)
  refine OL (OL ?_)
  obtain ⟨q5_14,h,q⟩:=bE q
  refine OL (cD H22 ([(rd 0 a.1 0),(rd 0 b.1 1)],(0:Int)) h rfl (R2 (AI (fun _=>rfl) (R2 (AI TV (AI TV (OL (OL (OL (cI q (fun q=>?_) (fun q=>?_)))))))))))
  ·refine OL (OL ?_)
   cases sE q
   refine AI rfl (E4 (iuR [0,0]) (R2 (AJ (R2 TV))))
  refine OL ?_
  obtain ⟨r12,h,q⟩:=bE q
  refine OL (cA H74 (b.1,b.2) h rfl (R2 (K0 (OL (OL (OL ?_))))))
  obtain ⟨z15,hz15,q⟩:=bE q
  let e3:LE:=fun zz=>(2,P0 0 0)::(4,P0 1 0)::(7,.dat T2 (rd 0 a.1 1))::(8,.dat T2 (rd 0 b.1 1))::(9,P0 2 0)::(11,P0 3 0)::zz
  let h4:LH:=fun zz=>h1 ((1,.cells [N0,N0])::(2,.cells [(.osl 4),(.osl 5)])::(3,.cells [(.osl 6),(.d T1 r12.2.2)])::(4,.arr 3 T2 q5_14.2.1)::zz)
  refine lJ hz15 (fun x=>⟨e3 [(73,.dat T2 (rd 0 a.1 0)),(74,.dat T2 x.1)],h4 [(5,.arr 42 T2 x.2),(6,.arr 3 T2 r12.2.1)],7⟩) (fun z=>[(3,⟨[(4,P0 0 0),(9,P0 1 0)],[(0,.cells [N0,N0]),(1,.cells [(.osl 2),(.osl 3)]),(2,.arr 3 T2 q5_14.2.1),(3,.arr 42 T2 z)],4⟩)]) (EI [] (EI [] (EI [] (EI [8] (EI (iuR [1,3,7,10,5,6,8]) (R5 (AI (R4 TV) (R7 TV)))))))) (fun m=>F6 (fun v74=>fun l5 z q=>?_)) ?_
  ·have q:f94_l8 a b r12 _ v74 l5=some z:=q
   unfold f94_l8 at q
   refine OL (OL (cI q (fun q=>?_) (fun q=>?_)))
   ·refine OL (OL (OL ?_))
    obtain ⟨z16,h,q⟩:=bE q
    refine lJ h (fun x=>⟨e3 [(13,.dat T2 v74),(73,.dat T2 (rd 0 a.1 0)),(74,.dat T2 v74),(77,.dat T2 (rd 0 b.1 1)),(78,.dat T2 x.1)],h4 [(5,.arr 42 T2 x.2),(6,.arr 3 T2 r12.2.1)],7⟩) (fun z=>[(5,⟨e3 [(73,.dat T2 (rd 0 a.1 0)),(74,.dat T2 v74)],h4 [(5,.arr 42 T2 z),(6,.arr 3 T2 r12.2.1)],7⟩)]) (E4 I7 (R8 (AI (R4 TV) (R7 TV)))) (fun m=>F6 (fun v78=>fun l5_2 z q=>?_)) ?_
    ·have q:f94_l9 a b r12 v74 _ v78 l5_2=some z:=q
     unfold f94_l9 at q
     refine OL (OL (cI q (fun q=>?_) (fun q=>?_)))
     ·refine OL (OL (EI (tU 0 26 (.alt 26 (.alt 27 (.take 28 (.alt 29 .done .done)) .done) .done)) (EI [] (EI [] (AI rfl (gI q (fun q=>?_)))))))
      refine AI TV (gI q (fun q=>?_))
      refine AI TV ?_
      obtain ⟨q16_27,h,q⟩:=bE q
      refine OL (cA H140 ((List.drop (Int.toNat (i64.wrap (v74*(rd 0 a.1 1)))) (List.take (Int.toNat (i64.wrap ((i64.wrap (v74+1))*(rd 0 a.1 1)))) a.2)),(List.drop (Int.toNat (i64.wrap (v78*(rd 0 a.1 1)))) (List.take (Int.toNat (i64.wrap ((i64.wrap (v78+1))*(rd 0 a.1 1)))) r12.2.2))) h rfl (R2 (K0 (gI q (fun q=>?_)))))
      refine AI TV (OL (EI ((i64.wrap (v78+1)),(List.set l5_2 (Int.toNat (i64.wrap ((i64.wrap (v74*(rd 0 b.1 1)))+v78))) q16_27)) (AI q (E4 I7 (R8 (AI (R4 TV) (R7 TV)))))))
     cases sE q
     refine E4 I7 (R5 (AI (R4 TV) (R7 TV)))
    refine AI (EI ((i64.wrap (v74+1)),z16) (AI q (E4 I7 (R5 (AI (R4 TV) (R7 TV)))))) TV
   cases sE q
   refine E4 (iuR [2,3,5,6]) (AI rfl (AI (R2 TV) (R4 TV)))
  refine AI (OL (OL ?_)) TV
  cases sE q
  refine AI rfl (E4 (iuR [3,4]) (R2 (AJ (R2 TV))))
 dsimp only [Fz] at q
 refine AI ?_ TV
 cases sE q
 refine AI rfl (E4 (iuR [0,0]) (R2 (AJ (R2 TV))))
theorem H94:HI C94 94:=hI Tryz.f94 rfl fun x=>V94 x.1 x.2
def f131 (step:Int):Option Bool:=
 bif (decide (step≥1)) then
 some (decide (step≤64))
 else
 some false
def C131:Con:=⟨Int,Bool,0,fun x=>[.dat T2 x],NX,fun x=>f131 x,fun y=>[.dat .bool y],NX,0⟩
theorem V131 step y (q:f131 step=some y):VC Tryz.f131 C131 step y:=by
 unfold f131 at q
 refine OL (OL (cI q (fun q=>?_) (fun q=>?_)))
 ·refine gX (cT ?_)
  cases sE q
  refine AI rfl (E4 [] (R2 (AI TV TV)))
 refine gM (cF ?_)
 cases sE q
 refine AI rfl (E4 [] (R2 (AI TV TV)))
theorem H131:HI C131 131:=hI Tryz.f131 rfl fun x=>V131 x
def f133 (long wide step:Int):Option Int:=
 bif (decide (wide>long)) then
 some (0:Int)
 else
 E9 (step≠0)<|
 some (i64.wrap ((i64.wrap (Int.tdiv (i64.wrap (long-wide)) step))+1))
def C133:Con:=⟨PTz7,Int,0,fun x=>[.dat T2 x.1,.dat T2 x.2.1,.dat T2 x.2.2],NX,fun x=>f133 x.1 x.2.1 x.2.2,fun y=>[.dat T2 y],NX,0⟩
theorem V133 long wide step y (q:f133 long wide step=some y):VC Tryz.f133 C133 (long,wide,step) y:=by
 unfold f133 at q
 refine OL (OL (OL (cI q (fun q=>?_) (fun q=>?_))))
 ·cases sE q
  refine OL (AI rfl (E4 [] (R2 (AI TV TV))))
 refine OL (gI q (fun q=>?_))
 cases sE q
 refine AI rfl (E4 [] (R2 (AI TV TV)))
theorem H133:HI C133 133:=hI Tryz.f133 rfl fun x=>V133 x.1 x.2.1 x.2.2
def f134 (d:LI):Option Gl:=
 Ey (f22 d (0:Int)) fun r1=>
 bif (r1.1 != 0) then
 some ((2:Int),[],[])
 else
 some ((0:Int),r1.2.1,r1.2.2)
def C134:Con:=⟨LI,Gl,0,fun x=>[.dat T1 x],NX,fun x=>f134 x,fun y=>[.raw true [(.osl 0),(.osl 1)],.dat T2 y.1],fun y=>[(0,.arr 3 T2 y.2.1),(1,.arr 42 T2 y.2.2)],2⟩
theorem V134 d y (q:f134 d=some y):VC Tryz.f134 C134 d y:=by
 unfold f134 at q
 refine OL (OL ?_)
 obtain ⟨r1,h,q⟩:=bE q
 refine OL (cA H22 (d,(0:Int)) h rfl (R2 (K0 (OL (OL (OL (cI q (fun q=>?_) (fun q=>?_))))))))
 ·refine OL (OL ?_)
  cases sE q
  refine AI rfl (E4 (iuR [0,0]) (R2 (AJ (R2 TV))))
 refine OL (OL ?_)
 cases sE q
 refine AI rfl (E4 (iuR [2,3]) (R2 (AJ (R2 TV))))
theorem H134:HI C134 134:=hI Tryz.f134 rfl fun x=>V134 x
def f95_j4 (a k:Fx) (step:Int):Option Bool:=
 Ey (f28 (a.1,a.2)) fun r12=>
 bif (!r12) then
 some true
 else
 Ey (f28 (k.1,k.2)) fun r13=>
 bif (!r13) then
 some true
 else
 Ey (f131 step) fun r14=>
 some (!r14)
def f95_j5 (a k:Fx):Option Bool:=
 bif ((a.1.length:Int) != 2) then
 some true
 else
 bif ((k.1.length:Int) != 3) then
 some true
 else
 E9 (0≤(1:Int)∧1<(k.1.length:Int))<|
 E9 (0≤(0:Int)∧0<(a.1.length:Int))<|
 bif ((rd 0 k.1 1) != (rd 0 a.1 0)) then
 some true
 else
 E9 (0≤(2:Int)∧2<(k.1.length:Int))<|
 E9 (0≤(1:Int)∧1<(a.1.length:Int))<|
 some (decide ((rd 0 k.1 2)>(rd 0 a.1 1)))
def f95_j3 (a k:Fx) (step:Int):Option (Sum Unit Int):=
 Ey (f95_j4 a k step) fun z11=>
 bif z11 then
 some (Sum.inr (1:Int))
 else
 Ey (f95_j5 a k) fun z15=>
 bif z15 then
 some (Sum.inr (4:Int))
 else
 some (Sum.inl ())
def f95_l18 (a k:Fx) (step q5_14 v102 v112:Int) (go:PTz2→Option PTz7) (v116 c4_0_2 c4_1_2 c4_2_2:Int):Option PTz7:=
 bif (decide (v116<(rd 0 k.1 2))) then
 E9 (0≤(i64.wrap ((i64.wrap ((i64.wrap (v112*(rd 0 a.1 1)))+(i64.wrap ((Int.tmod v102 q5_14)*step))))+v116))∧(i64.wrap ((i64.wrap ((i64.wrap (v112*(rd 0 a.1 1)))+(i64.wrap ((Int.tmod v102 q5_14)*step))))+v116))<a.2.length)<|
 E9 (0≤(i64.wrap ((i64.wrap ((i64.wrap ((i64.wrap ((i64.wrap (Int.tdiv v102 q5_14))*(rd 0 a.1 0)))+v112))*(rd 0 k.1 2)))+v116))∧(i64.wrap ((i64.wrap ((i64.wrap ((i64.wrap ((i64.wrap (Int.tdiv v102 q5_14))*(rd 0 a.1 0)))+v112))*(rd 0 k.1 2)))+v116))<k.2.length)<|
 Ey (f135 c4_0_2 c4_1_2 c4_2_2 (rd 0 a.2 (i64.wrap ((i64.wrap ((i64.wrap (v112*(rd 0 a.1 1)))+(i64.wrap ((Int.tmod v102 q5_14)*step))))+v116))) (rd 0 k.2 (i64.wrap ((i64.wrap ((i64.wrap ((i64.wrap ((i64.wrap (Int.tdiv v102 q5_14))*(rd 0 a.1 0)))+v112))*(rd 0 k.1 2)))+v116)))) fun q21_26=>
 go ((i64.wrap (v116+1)),q21_26.1,q21_26.2.1,q21_26.2.2)
 else
 some (c4_0_2,c4_1_2,c4_2_2)
def f95_l17 (a k:Fx) (step q5_14 v102:Int) (go:PTz2→Option PTz7) (v112 c4_0 c4_1 c4_2:Int):Option PTz7:=
 bif (decide (v112<(rd 0 a.1 0))) then
 Ey (Fp (fun go x=>f95_l18 a k step q5_14 v102 v112 go x.1 x.2.1 x.2.2.1 x.2.2.2) Fv ((0:Int),c4_0,c4_1,c4_2)) fun z29=>
 go ((i64.wrap (v112+1)),z29.1,z29.2.1,z29.2.2)
 else
 some (c4_0,c4_1,c4_2)
def f95_l14 (a k:Fx) (step q5_14:Int) (r16:Gl) (go:Jv→Option LI) (v102:Int) (l5:LI):Option LI:=
 bif (decide (v102<r16.2.2.length)) then
 E9 (q5_14≠0)<|
 E9 (q5_14≠0)<|
 Ey (Fp (fun go x=>f95_l17 a k step q5_14 v102 go x.1 x.2.1 x.2.2.1 x.2.2.2) Fv ((0:Int),(0:Int),(0:Int),(0:Int))) fun z28=>
 Ey (f136 z28.1 z28.2.1 z28.2.2 (32:Int)) fun q24_3=>
 E9 (0≤v102∧v102<l5.length)<|
 go ((i64.wrap (v102+1)),(List.set l5 (Int.toNat v102) q24_3.1))
 else
 some l5
def f95 (a k:Fx) (step:Int):Option Gl:=
 Ey (f95_j3 a k step) fun z8=>
 Fz z8 (fun z8a=>
 E9 (0≤(0:Int)∧0<(a.1.length:Int))<|
 E9 (0≤(1:Int)∧1<(a.1.length:Int))<|
 E9 (0≤(2:Int)∧2<(k.1.length:Int))<|
 Ey (f133 (rd 0 a.1 1) (rd 0 k.1 2) step) fun q5_14=>
 E9 (0≤(0:Int)∧0<(k.1.length:Int))<|
 Ey (f134 ([(rd 0 k.1 0),q5_14])) fun r16=>
 bif (r16.1 != 0) then
 some (r16.1,[],[])
 else
 Ey (Fp (fun go x=>f95_l14 a k step q5_14 r16 go x.1 x.2) Fv ((0:Int),r16.2.2)) fun z25=>
 some ((0:Int),r16.2.1,z25)) (fun z8b=>
 some (z8b,[],[]))
def C95:Con:=⟨Fx×Fx×Int,Gl,0,fun x=>[.dat T3 x.1,.dat T3 x.2.1,.dat T2 x.2.2],NX,fun x=>f95 x.1 x.2.1 x.2.2,fun y=>[.raw true [(.osl 0),(.osl 1)],.dat T2 y.1],fun y=>[(0,.arr 3 T2 y.2.1),(1,.arr 42 T2 y.2.2)],2⟩
theorem V95 a k step y (q:f95 a k step=some y):VC Tryz.f95 C95 (a,k,step) y:=by
 unfold f95 at q
 refine OL ?_
 obtain ⟨z8,hz8,q⟩:=bE q
 let e0:LE:=fun zz=>(2,.dat T2 step)::(3,P0 0 0)::(4,P0 1 0)::(6,P0 2 0)::zz
 let h1:LH:=fun zz=>(0,.cells [(.d T1 a.1),(.d T1 a.2)])::(1,.cells [(.d T1 k.1),(.d T1 k.2)])::(2,.cells [N0,N0])::zz
 refine OQ ⟨Sum.elim (fun z8a=>[(0,⟨e0 [],h1 [],3⟩)]) (fun z8b=>[(1,⟨[(6,P0 0 0),(7,.dat T2 z8b)],[(0,.cells [N0,N0])],1⟩)]) z8,?_,?_⟩
 ·have q:=hz8
  clear hz8
  unfold f95_j3 at q
  obtain ⟨z11,hz11,q⟩:=bE q
  refine OQ ⟨[(0,⟨e0 [(20,.dat .bool z11)],h1 [],3⟩)],?_,?_⟩
  ·have q:=hz11
   clear hz11
   unfold f95_j4 at q
   obtain ⟨r12,h,q⟩:=bE q
   refine OL (cA H28 (a.1,a.2) h rfl (R2 (K0 (cN q (fun q=>?_) (fun q=>?_)))))
   ·refine gY ?_
    obtain ⟨r13,h,q⟩:=bE q
    refine OL (cA H28 (k.1,k.2) h rfl (R2 (K0 (gY (cF (cN q (fun q=>?_) (fun q=>?_)))))))
    ·refine gY ?_
     obtain ⟨r14,h,q⟩:=bE q
     refine OL (cA H131 step h rfl (AI rfl (K0 (gY (cF ?_)))))
     cases sE q
     refine E4 I3 (R3 (AI (R3 TV) (R3 TV)))
    refine gN (gN (cT ?_))
    cases sE q
    refine E4 I3 (R3 (AI (R3 TV) (R3 TV)))
   refine gN (gN (cT (gN (gN (gN (cT ?_))))))
   cases sE q
   refine E4 I3 (R3 (AI (R3 TV) (R3 TV)))
  refine AI (cI q (fun q=>?_) (fun q=>?_)) TV
  ·refine OL (OL ?_)
   cases sE q
   refine E4 (iuR [3]) (R2 (AJ (AI rfl TV)))
  obtain ⟨z15,hz15,q⟩:=bE q
  refine OQ ⟨[(0,⟨e0 [(35,.dat .bool z15)],h1 [],3⟩)],?_,?_⟩
  ·have q:=hz15
   clear hz15
   unfold f95_j5 at q
   refine EI (tU 0 33 .done) (EI [] (EI [] (AI rfl (cN q (fun q=>?_) (fun q=>?_)))))
   ·refine gY (gY (gY (cF (cN q (fun q=>?_) (fun q=>?_)))))
    ·refine gY (gY (gI q (fun q=>?_)))
     refine gY (gY (gY (gY (gI q (fun q=>?_)))))
     refine gY (gY (cF (cN q (fun q=>?_) (fun q=>?_))))
     ·refine gY (gY (gI q (fun q=>?_)))
      refine gY (gY (gY (gY (gI q (fun q=>?_)))))
      refine gY (gY (cF ?_))
      cases sE q
      refine E4 I3 (R3 (AI (R3 TV) (R3 TV)))
     refine gN (gN (gN (gN (gN (gN (gN (gN (cT ?_))))))))
     cases sE q
     refine E4 I3 (R3 (AI (R3 TV) (R3 TV)))
    refine gN (gN (gN (gN (gN (gN (gN (gN (cT (gN (gN (gN (gN (gN (gN (gN (gN (gN (cT ?_))))))))))))))))))
    cases sE q
    refine E4 I3 (R3 (AI (R3 TV) (R3 TV)))
   refine gN (gN (gN (cT (gN (gN (gN (gN (gN (gN (gN (gN (gN (cT (gN (gN (gN (gN (gN (gN (gN (gN (gN (cT ?_)))))))))))))))))))))))
   cases sE q
   refine E4 I3 (R3 (AI (R3 TV) (R3 TV)))
  refine AI (cI q (fun q=>?_) (fun q=>?_)) TV
  ·refine OL (OL ?_)
   cases sE q
   refine E4 (iuR [3]) (R2 (AJ (AI rfl TV)))
  cases sE q
  refine E4 I3 (R2 (AI (R3 TV) (R3 TV)))
 rcases z8 with z8a | z8b
 ·dsimp only [Fz] at q
  refine AI (OL (EI (tU 0 15 .done) (EI [] (EI [] (AI rfl (gI q (fun q=>?_))))))) TV
  refine gI q (fun q=>?_)
  refine gI q (fun q=>?_)
  refine OL ?_
  obtain ⟨q5_14,h,q⟩:=bE q
  refine OL (cA H133 ((rd 0 a.1 1),(rd 0 k.1 2),step) h rfl (R3 (K0 (OL (gI q (fun q=>?_))))))
  refine OL ?_
  obtain ⟨r16,h,q⟩:=bE q
  refine OL (cD H134 [(rd 0 k.1 0),q5_14] h rfl (AI rfl (AI (fun _=>rfl) (R2 (AI TV (AI TV (OL (OL (OL (cI q (fun q=>?_) (fun q=>?_)))))))))))
  ·refine OL (OL ?_)
   cases sE q
   refine AI rfl (E4 (iuR [0,0]) (R2 (AJ (R2 TV))))
  refine OL (OL ?_)
  obtain ⟨z25,hz25,q⟩:=bE q
  let e2:LE:=fun zz=>e0 ((8,.dat T2 (rd 0 a.1 0))::(9,.dat T2 (rd 0 a.1 1))::(10,.dat T2 (rd 0 k.1 2))::(11,.dat T2 q5_14)::(12,P0 3 0)::zz)
  refine lJ hz25 (fun x=>⟨e2 [(101,.dat T2 (r16.2.2.length:Int)),(102,.dat T2 x.1)],h1 [(3,.cells [(.osl 4),(.osl 5)]),(4,.arr 3 T2 r16.2.1),(5,.arr 42 T2 x.2)],6⟩) (fun z=>[(3,⟨[(6,P0 0 0),(12,P0 1 0)],[(0,.cells [N0,N0]),(1,.cells [(.osl 2),(.osl 3)]),(2,.arr 3 T2 r16.2.1),(3,.arr 42 T2 z)],4⟩)]) (E4 (iuR [1,2,3,7,5,6]) (R8 (AI (R4 TV) (R6 TV)))) (fun m=>F6 (fun v102=>fun l5 z q=>?_)) ?_
  ·have q:f95_l14 a k step q5_14 r16 _ v102 l5=some z:=q
   unfold f95_l14 at q
   refine OL (OL (cI q (fun q=>?_) (fun q=>?_)))
   ·refine OL (OL (OL (EI (tU 0 8 .done) (EI [] (EI [] (AI rfl (gI q (fun q=>?_))))))))
    refine gI q (fun q=>?_)
    refine OL (OL (OL ?_))
    obtain ⟨z28,hz28,q⟩:=bE q
    let e3:LE:=fun zz=>e2 ((14,.dat T2 v102)::zz)
    let e4:LE:=fun zz=>e3 ((15,.dat T2 (i64.wrap (Int.tdiv v102 q5_14)))::(16,.dat T2 (Int.tmod v102 q5_14))::(17,P0 4 0)::zz)
    let e5:LE:=fun zz=>e4 ((101,.dat T2 (r16.2.2.length:Int))::(102,.dat T2 v102)::(111,.dat T2 (rd 0 a.1 0))::zz)
    let h6:LH:=fun zz=>h1 ((3,.cells [(.osl 5),(.osl 6)])::zz)
    refine lJ hz28 (fun x=>⟨e5 [(112,.dat T2 x.1)],h6 [(4,.cells [(.d T2 x.2.1),(.d T2 x.2.2.1),(.d T4 x.2.2.2)]),(5,.arr 3 T2 r16.2.1),(6,.arr 42 T2 l5)],7⟩) (fun z=>[(5,⟨e3 [(17,P0 4 0),(101,.dat T2 (r16.2.2.length:Int)),(102,.dat T2 v102)],h6 [(4,.cells [(.d T2 z.1),(.d T2 z.2.1),(.d T4 z.2.2)]),(5,.arr 3 T2 r16.2.1),(6,.arr 42 T2 l5)],7⟩)]) (E4 (iuR [1,2,3,4,7,5,6]) (R13 (AI (R5 TV) (R7 TV)))) (fun m=>F6 (fun v112=>F6 (fun c4_0=>F6 (fun c4_1=>fun c4_2 z q=>?_)))) ?_
    ·have q:f95_l17 a k step q5_14 v102 _ v112 c4_0 c4_1 c4_2=some z:=q
     unfold f95_l17 at q
     refine OL (OL (cI q (fun q=>?_) (fun q=>?_)))
     ·refine OL (OL (OL ?_))
      obtain ⟨z29,h,q⟩:=bE q
      refine lJ h (fun x=>⟨e4 [(18,.dat T2 v112),(101,.dat T2 (r16.2.2.length:Int)),(102,.dat T2 v102),(111,.dat T2 (rd 0 a.1 0)),(112,.dat T2 v112),(115,.dat T2 (rd 0 k.1 2)),(116,.dat T2 x.1)],h6 [(4,.cells [(.d T2 x.2.1),(.d T2 x.2.2.1),(.d T4 x.2.2.2)]),(5,.arr 3 T2 r16.2.1),(6,.arr 42 T2 l5)],7⟩) (fun z=>[(7,⟨e5 [(112,.dat T2 v112)],h6 [(4,.cells [(.d T2 z.1),(.d T2 z.2.1),(.d T4 z.2.2)]),(5,.arr 3 T2 r16.2.1),(6,.arr 42 T2 l5)],7⟩)]) (E4 I7 (R16 (AI (R5 TV) (R7 TV)))) (fun m=>F6 (fun v116=>F6 (fun c4_0_2=>F6 (fun c4_1_2=>fun c4_2_2 z q=>?_)))) ?_
      ·have q:f95_l18 a k step q5_14 v102 v112 _ v116 c4_0_2 c4_1_2 c4_2_2=some z:=q
       unfold f95_l18 at q
       refine OL (OL (cI q (fun q=>?_) (fun q=>?_)))
       ·refine OL (OL (EI (tU 0 26 (.alt 26 .done .done)) (EI [] (EI [] (AI rfl (gI q (fun q=>?_)))))))
        refine gI q (fun q=>?_)
        refine AI TV ?_
        obtain ⟨q21_26,h,q⟩:=bE q
        refine OL (cB H135 (c4_0_2,c4_1_2,c4_2_2,(rd 0 a.2 (i64.wrap ((i64.wrap ((i64.wrap (v112*(rd 0 a.1 1)))+(i64.wrap ((Int.tmod v102 q5_14)*step))))+v116))),(rd 0 k.2 (i64.wrap ((i64.wrap ((i64.wrap ((i64.wrap ((i64.wrap (Int.tdiv v102 q5_14))*(rd 0 a.1 0)))+v112))*(rd 0 k.1 2)))+v116)))) (iuR [5]) false h rfl (R2 (AI NH (R2 (AJ (AJ (EI ((i64.wrap (v116+1)),q21_26.1,q21_26.2.1,q21_26.2.2) (AI q (E4 I7 (R16 (AI (R5 TV) (R7 TV))))))))))))
       cases sE q
       refine E4 I7 (R13 (AI (R5 TV) (R7 TV)))
      refine AI (EI ((i64.wrap (v112+1)),z29.1,z29.2.1,z29.2.2) (AI q (E4 I7 (R13 (AI (R5 TV) (R7 TV)))))) TV
     cases sE q
     refine E4 I7 (R9 (AI (R5 TV) (R7 TV)))
    refine AI (EI (tU 0 3 (.alt 3 (.take 4 (.alt 5 .done .done)) .done)) (EI [] (EI [] (AI rfl (AI TV ?_))))) TV
    obtain ⟨q24_3,h,q⟩:=bE q
    refine OL (cB H136 (z28.1,z28.2.1,z28.2.2,(32:Int)) (iuR [5]) false h rfl (AI rfl (AI NH (R2 (AJ (AJ (gI q (fun q=>?_))))))))
    refine AI TV (OL (EI ((i64.wrap (v102+1)),(List.set l5 (Int.toNat v102) q24_3.1)) (AI q (E4 (iuR [1,2,3,4,6,7]) (R8 (AI (R4 TV) (R6 TV)))))))
   cases sE q
   refine E4 (iuR [3,4,5,6]) (AI rfl (AI (R2 TV) (R4 TV)))
  refine AI (OL (OL ?_)) TV
  cases sE q
  refine AI rfl (E4 (iuR [3,4]) (R2 (AJ (R2 TV))))
 dsimp only [Fz] at q
 refine AI ?_ TV
 cases sE q
 refine AI rfl (E4 (iuR [0,0]) (R2 (AJ (R2 TV))))
theorem H95:HI C95 95:=hI Tryz.f95 rfl fun x=>V95 x.1 x.2.1 x.2.2
def f52 (op:Int) (a b:Fx) (k:Int):Option Gl:=
 bif (op==2) then
 Ey (f61 (a.1,a.2) (b.1,b.2)) fun r1=>
 some (r1.1,r1.2.1,r1.2.2)
 else
 bif (op==3) then
 Ey (f93 (a.1,a.2) (b.1,b.2)) fun r2=>
 some (r2.1,r2.2.1,r2.2.2)
 else
 bif (op==4) then
 Ey (f70 (a.1,a.2) (b.1,b.2)) fun r3=>
 some (r3.1,r3.2.1,r3.2.2)
 else
 bif (op==6) then
 Ey (f94 (a.1,a.2) (b.1,b.2)) fun r4=>
 some (r4.1,r4.2.1,r4.2.2)
 else
 Ey (f95 (a.1,a.2) (b.1,b.2) k) fun r5=>
 some (r5.1,r5.2.1,r5.2.2)
def C52:Con:=⟨Int×Fx×Fx×Int,Gl,0,fun x=>[.dat T2 x.1,.dat T3 x.2.1,.dat T3 x.2.2.1,.dat T2 x.2.2.2],NX,fun x=>f52 x.1 x.2.1 x.2.2.1 x.2.2.2,fun y=>[.raw true [(.osl 0),(.osl 1)],.dat T2 y.1],fun y=>[(0,.arr 3 T2 y.2.1),(1,.arr 42 T2 y.2.2)],2⟩
theorem V52 op a b k y (q:f52 op a b k=some y):VC Tryz.f52 C52 (op,a,b,k) y:=by
 unfold f52 at q
 refine OL (OL (OL (OL (cI q (fun q=>?_) (fun q=>?_)))))
 ·refine OL ?_
  obtain ⟨r1,h,q⟩:=bE q
  refine OL (cA H61 ((a.1,a.2),(b.1,b.2)) h rfl (R4 (K0 (OL ?_))))
  cases sE q
  refine AI rfl (E4 (iuR [4,5]) (R2 (AJ (R2 TV))))
 refine OL (cI q (fun q=>?_) (fun q=>?_))
 ·refine OL ?_
  obtain ⟨r2,h,q⟩:=bE q
  refine OL (cA H93 ((a.1,a.2),(b.1,b.2)) h rfl (R4 (K0 (OL ?_))))
  cases sE q
  refine AI rfl (E4 (iuR [4,5]) (R2 (AJ (R2 TV))))
 refine OL (cI q (fun q=>?_) (fun q=>?_))
 ·refine OL ?_
  obtain ⟨r3,h,q⟩:=bE q
  refine OL (cA H70 ((a.1,a.2),(b.1,b.2)) h rfl (R4 (K0 (OL ?_))))
  cases sE q
  refine AI rfl (E4 (iuR [4,5]) (R2 (AJ (R2 TV))))
 refine OL (cI q (fun q=>?_) (fun q=>?_))
 ·refine OL ?_
  obtain ⟨r4,h,q⟩:=bE q
  refine OL (cA H94 ((a.1,a.2),(b.1,b.2)) h rfl (R4 (K0 (OL ?_))))
  cases sE q
  refine AI rfl (E4 (iuR [4,5]) (R2 (AJ (R2 TV))))
 refine OL ?_
 obtain ⟨r5,h,q⟩:=bE q
 refine OL (cA H95 ((a.1,a.2),(b.1,b.2),k) h rfl (R5 (K0 (OL ?_))))
 cases sE q
 refine AI rfl (E4 (iuR [4,5]) (R2 (AJ (R2 TV))))
theorem H52:HI C52 52:=hI Tryz.f52 rfl fun x=>V52 x.1 x.2.1 x.2.2.1 x.2.2.2
def f72_l1 (k:Int) (r1:Fx) (go:Jv→Option LI) (v18:Int) (l2:LI):Option LI:=
 bif (decide (v18<r1.2.length)) then
 E9 (0≤v18∧v18<l2.length)<|
 Ey (f116 (rd 0 l2 v18) k) fun q7_5=>
 E9 (0≤v18∧v18<l2.length)<|
 go ((i64.wrap (v18+1)),(List.set l2 (Int.toNat v18) q7_5))
 else
 some l2
def f72 (a:Fx) (k:Int):Option Gl:=
 Ey (f28 (a.1,a.2)) fun q7_7=>
 bif (!q7_7) then
 some ((1:Int),[],[])
 else
 Ey (f48 (a.1,a.2)) fun r1=>
 Ey (Fp (fun go x=>f72_l1 k r1 go x.1 x.2) Fv ((0:Int),r1.2)) fun z2=>
 some ((0:Int),r1.1,z2)
def C72:Con:=⟨Fx×Int,Gl,0,fun x=>[.dat T3 x.1,.dat T2 x.2],NX,fun x=>f72 x.1 x.2,fun y=>[.raw true [(.osl 0),(.osl 1)],.dat T2 y.1],fun y=>[(0,.arr 3 T2 y.2.1),(1,.arr 42 T2 y.2.2)],2⟩
theorem V72 a k y (q:f72 a k=some y):VC Tryz.f72 C72 (a,k) y:=by
 unfold f72 at q
 refine OL (OL (OL ?_))
 obtain ⟨q7_7,h,q⟩:=bE q
 refine OL (cA H28 (a.1,a.2) h rfl (R2 (K0 (cI q (fun q=>?_) (fun q=>?_)))))
 ·refine OL (OL ?_)
  cases sE q
  refine AI rfl (E4 (iuR [0,0]) (R2 (AJ (R2 TV))))
 refine OL ?_
 obtain ⟨r1,h,q⟩:=bE q
 refine OL (cA H48 (a.1,a.2) h rfl (R2 (K0 (OL (OL (OL ?_))))))
 obtain ⟨z2,h,q⟩:=bE q
 refine lJ h (fun x=>⟨[(1,.dat T2 k),(4,P0 0 0),(6,P0 1 0),(16,O0 2),(17,.dat T2 (r1.2.length:Int)),(18,.dat T2 x.1)],[(0,.cells [N0,N0]),(1,.cells [(.osl 3),(.osl 2)]),(2,.arr 42 T2 x.2),(3,.arr 3 T2 r1.1)],4⟩) (fun z=>[(2,⟨[(4,P0 0 0),(6,P0 1 0)],[(0,.cells [N0,N0]),(1,.cells [(.osl 2),(.osl 3)]),(2,.arr 3 T2 r1.1),(3,.arr 42 T2 z)],4⟩)]) (E4 (iuR [2,5,4,3]) (R4 (AI (R3 TV) (R4 TV)))) (fun m=>F6 (fun v18=>fun l2 z q=>?_)) ?_
 ·have q:f72_l1 k r1 _ v18 l2=some z:=q
  unfold f72_l1 at q
  refine OL (OL (cI q (fun q=>?_) (fun q=>?_)))
  ·refine OL (OL (gI q (fun q=>?_)))
   refine EI (tU 0 5 (.alt 5 (.take 6 (.alt 7 .done .done)) .done)) (EI [] (EI [] (AI rfl (AI TV ?_))))
   obtain ⟨q7_5,h,q⟩:=bE q
   refine OL (cA H116 ((rd 0 l2 v18),k) h rfl (R2 (K0 (gI q (fun q=>?_)))))
   refine AI TV (OL (EI ((i64.wrap (v18+1)),(List.set l2 (Int.toNat v18) q7_5)) (AI q (E4 I4 (R4 (AI (R3 TV) (R4 TV)))))))
  cases sE q
  refine E4 (iuR [1,2,4,3]) (AI rfl (AI (R2 TV) (R4 TV)))
 refine AI (OL (OL ?_)) TV
 cases sE q
 refine AI rfl (E4 (iuR [3,4]) (R2 (AJ (R2 TV))))
theorem H72:HI C72 72:=hI Tryz.f72 rfl fun x=>V72 x.1 x.2
def f96_j3 (a:Fx) (Fw:Int):Option Bool:=
 Ey (f28 (a.1,a.2)) fun r6=>
 bif (!r6) then
 some true
 else
 bif (decide (Fw<0)) then
 some true
 else
 some (decide (Fw≥a.1.length))
def f96_j2 (a:Fx) (Fw:Int):Option (Sum Unit Unit):=
 Ey (f96_j3 a Fw) fun z5=>
 bif z5 then
 some (Sum.inr ())
 else
 some (Sum.inl ())
def f96_l4 (a:Fx) (Fw:Int) (r7:LI) (go:(Int×(List Gm))→Option (List Gm)) (v55:Int) (l3:List Gm):Option (List Gm):=
 bif (decide (v55<a.2.length)) then
 E9 (0≤v55∧v55<a.2.length)<|
 E9 (0≤Fw∧Fw<a.1.length)<|
 E9 ((i64.wrap ((rd 0 r7 Fw)*(rd 0 a.1 Fw)))≠0)<|
 E9 ((rd 0 r7 Fw)≠0)<|
 E9 (0≤(i64.wrap ((i64.wrap ((i64.wrap (Int.tdiv v55 (i64.wrap ((rd 0 r7 Fw)*(rd 0 a.1 Fw)))))*(rd 0 r7 Fw)))+(Int.tmod v55 (rd 0 r7 Fw))))∧(i64.wrap ((i64.wrap ((i64.wrap (Int.tdiv v55 (i64.wrap ((rd 0 r7 Fw)*(rd 0 a.1 Fw)))))*(rd 0 r7 Fw)))+(Int.tmod v55 (rd 0 r7 Fw))))<l3.length)<|
 Ey (f77 (rd 0 a.2 v55)) fun q10_7=>
 Ey (f142 ((rd (Ty.z T5) l3 (i64.wrap ((i64.wrap ((i64.wrap (Int.tdiv v55 (i64.wrap ((rd 0 r7 Fw)*(rd 0 a.1 Fw)))))*(rd 0 r7 Fw)))+(Int.tmod v55 (rd 0 r7 Fw))))).1,(rd (Ty.z T5) l3 (i64.wrap ((i64.wrap ((i64.wrap (Int.tdiv v55 (i64.wrap ((rd 0 r7 Fw)*(rd 0 a.1 Fw)))))*(rd 0 r7 Fw)))+(Int.tmod v55 (rd 0 r7 Fw))))).2) (q10_7.1,q10_7.2)) fun q10_8=>
 E9 (0≤(i64.wrap ((i64.wrap ((i64.wrap (Int.tdiv v55 (i64.wrap ((rd 0 r7 Fw)*(rd 0 a.1 Fw)))))*(rd 0 r7 Fw)))+(Int.tmod v55 (rd 0 r7 Fw))))∧(i64.wrap ((i64.wrap ((i64.wrap (Int.tdiv v55 (i64.wrap ((rd 0 r7 Fw)*(rd 0 a.1 Fw)))))*(rd 0 r7 Fw)))+(Int.tmod v55 (rd 0 r7 Fw))))<l3.length)<|
 go ((i64.wrap (v55+1)),(List.set l3 (Int.toNat (i64.wrap ((i64.wrap ((i64.wrap (Int.tdiv v55 (i64.wrap ((rd 0 r7 Fw)*(rd 0 a.1 Fw)))))*(rd 0 r7 Fw)))+(Int.tmod v55 (rd 0 r7 Fw))))) (q10_8.1,q10_8.2)))
 else
 some l3
def f96_l5 (z8:List Gm) (go:Jv→Option LI) (v93:Int) (l4:LI):Option LI:=
 bif (decide (v93<z8.length)) then
 E9 (0≤v93∧v93<z8.length)<|
 Ey (f127 ((rd (Ty.z T5) z8 v93).1,(rd (Ty.z T5) z8 v93).2)) fun q16_4=>
 E9 (0≤v93∧v93<l4.length)<|
 go ((i64.wrap (v93+1)),(List.set l4 (Int.toNat v93) q16_4))
 else
 some l4
def f96 (a:Fx) (Fw:Int):Option Gl:=
 Ey (f96_j2 a Fw) fun z3=>
 Fz z3 (fun z3a=>
 E9 (0≤Fw∧Fw≤a.1.length)<|
 E9 (0≤(i64.wrap (Fw+1))∧(i64.wrap (Fw+1))≤a.1.length)<|
 E9 ((List.length ([]:LI)+List.length (List.take (Int.toNat Fw) a.1))*8≤140737488355328)<|
 E9 ((List.length (([]:LI)++(List.take (Int.toNat Fw) a.1))+List.length (List.drop (Int.toNat (i64.wrap (Fw+1))) a.1))*8≤140737488355328)<|
 Ey (f60 ((([]:LI)++(List.take (Int.toNat Fw) a.1))++(List.drop (Int.toNat (i64.wrap (Fw+1))) a.1))) fun q3_12=>
 E9 (0≤q3_12∧q3_12≤q3_12∧Int.toNat q3_12*16≤140737488355328)<|
 Ey (f141 a.1) fun r7=>
 E9 (0≤Fw∧Fw<r7.length)<|
 Ey (Fp (fun go x=>f96_l4 a Fw r7 go x.1 x.2) Fv ((0:Int),(List.replicate (Int.toNat q3_12) (Ty.z T5)))) fun z8=>
 Ey (f22 ((([]:LI)++(List.take (Int.toNat Fw) a.1))++(List.drop (Int.toNat (i64.wrap (Fw+1))) a.1)) (0:Int)) fun q10_10=>
 Ey (Fp (fun go x=>f96_l5 z8 go x.1 x.2) Fv ((0:Int),q10_10.2.2)) fun z9=>
 some ((0:Int),q10_10.2.1,z9)) (fun z3b=>
 some ((1:Int),[],[]))
def C96:Con:=⟨Fx×Int,Gl,0,fun x=>[.dat T3 x.1,.dat T2 x.2],NX,fun x=>f96 x.1 x.2,fun y=>[.raw true [(.osl 0),(.osl 1)],.dat T2 y.1],fun y=>[(0,.arr 3 T2 y.2.1),(1,.arr 42 T2 y.2.2)],2⟩
theorem V96 a Fw y (q:f96 a Fw=some y):VC Tryz.f96 C96 (a,Fw) y:=by
 unfold f96 at q
 refine OL ?_
 obtain ⟨z3,hz3,q⟩:=bE q
 let e0:LE:=fun zz=>(1,.dat T2 Fw)::(2,P0 0 0)::(4,P0 1 0)::zz
 let h1:LH:=fun zz=>(0,.cells [(.d T1 a.1),(.d T1 a.2)])::(1,.cells [N0,N0])::zz
 refine OQ ⟨Sum.elim (fun z3a=>[(0,⟨e0 [],h1 [],2⟩)]) (fun z3b=>[(1,⟨[(4,P0 0 0),(5,D0 1)],[(0,.cells [N0,N0])],1⟩)]) z3,?_,?_⟩
 ·have q:=hz3
  clear hz3
  unfold f96_j2 at q
  obtain ⟨z5,hz5,q⟩:=bE q
  refine OQ ⟨[(0,⟨e0 [(29,.dat .bool z5)],h1 [],2⟩)],?_,?_⟩
  ·have q:=hz5
   clear hz5
   unfold f96_j3 at q
   obtain ⟨r6,h,q⟩:=bE q
   refine OL (cA H28 (a.1,a.2) h rfl (R2 (K0 (cN q (fun q=>?_) (fun q=>?_)))))
   ·refine gY (cF (cN q (fun q=>?_) (fun q=>?_)))
    ·refine gY (gY (gY (gY (cF ?_))))
     cases sE q
     refine E4 I2 (R3 (AI (R2 TV) (R2 TV)))
    refine gN (gN (gN (gN (cT ?_))))
    cases sE q
    refine E4 I2 (R3 (AI (R2 TV) (R2 TV)))
   refine gN (cT (gN (gN (gN (gN (gN (cT ?_)))))))
   cases sE q
   refine E4 I2 (R3 (AI (R2 TV) (R2 TV)))
  refine AI (cI q (fun q=>?_) (fun q=>?_)) TV
  ·refine OL (OL ?_)
   cases sE q
   refine E4 (iuR [2]) (R2 (AJ (AI rfl TV)))
  cases sE q
  refine E4 I2 (R2 (AI (R2 TV) (R2 TV)))
 rcases z3 with z3a | z3b
 ·dsimp only [Fz] at q
  refine AI (OL (EI (tU 1 4 (tU 6 5 (.alt 0 (.alt 5 (.alt 11 (.take 12 .done) .done) .done) .done))) (EI [] (EI [] (AI rfl (gI q (fun q=>?_))))))) TV
  refine gI q (fun q=>?_)
  refine AI TV (OL (AI TV (OL (gI q (fun q=>?_)))))
  refine AI TV (OL (gI q (fun q=>?_)))
  refine OL ?_
  obtain ⟨q3_12,h,q⟩:=bE q
  refine OL (cD H60 ((([]:LI)++(List.take (Int.toNat Fw) a.1))++(List.drop (Int.toNat (i64.wrap (Fw+1))) a.1)) h rfl (AI rfl (AI (fun _=>rfl) (R2 (AI TV (AI TV (gI q (fun q=>?_))))))))
  refine OL ?_
  obtain ⟨r7,h,q⟩:=bE q
  refine OL (cA H141 a.1 h rfl (AI rfl (K0 (gI q (fun q=>?_)))))
  refine OL (OL ?_)
  obtain ⟨z8,h,q⟩:=bE q
  refine lJ h (fun x=>⟨e0 [(6,O0 2),(7,O0 3),(8,.dat T2 (rd 0 r7 Fw)),(53,.dat T1 a.2),(54,.dat T2 (a.2.length:Int)),(55,.dat T2 x.1)],h1 [(2,.arr 3 T2 ((([]:LI)++(List.take (Int.toNat Fw) a.1))++(List.drop (Int.toNat (i64.wrap (Fw+1))) a.1))),(3,.arr 113 T5 x.2)],4⟩) (fun z=>[(2,⟨[(4,P0 0 0),(6,O0 1),(7,O0 2)],[(0,.cells [N0,N0]),(1,.arr 3 T2 ((([]:LI)++(List.take (Int.toNat Fw) a.1))++(List.drop (Int.toNat (i64.wrap (Fw+1))) a.1))),(2,.arr 113 T5 z)],3⟩)]) (E4 (iuR [1,2,5,6]) (R6 (AI (R4 TV) (R4 TV)))) (fun m=>F6 (fun v55=>fun l3 z q=>?_)) ?_
  ·have q:f96_l4 a Fw r7 _ v55 l3=some z:=q
   unfold f96_l4 at q
   refine OL (OL (cI q (fun q=>?_) (fun q=>?_)))
   ·refine OL (OL (gI q (fun q=>?_)))
    refine OL (EI (tU 0 16 .done) (EI [] (EI [] (AI rfl (gI q (fun q=>?_))))))
    refine gI q (fun q=>?_)
    refine gI q (fun q=>?_)
    refine EI (tU 0 7 (.alt 7 (.alt 8 (.take 9 (.alt 10 .done .done)) .done) .done)) (EI [(10,[3])] (EI [] (AI rfl (gI q (fun q=>?_)))))
    refine AI TV ?_
    obtain ⟨q10_7,h,q⟩:=bE q
    refine OL (cA H77 (rd (0:Int) a.2 v55) h rfl (AI rfl (K0 (AI TV ?_))))
    obtain ⟨q10_8,h,q⟩:=bE q
    refine OL (cA H142 (((rd (Ty.z T5) l3 (i64.wrap ((i64.wrap ((i64.wrap (Int.tdiv v55 (i64.wrap ((rd 0 r7 Fw)*(rd 0 a.1 Fw)))))*(rd 0 r7 Fw)))+(Int.tmod v55 (rd 0 r7 Fw))))).1,(rd (Ty.z T5) l3 (i64.wrap ((i64.wrap ((i64.wrap (Int.tdiv v55 (i64.wrap ((rd 0 r7 Fw)*(rd 0 a.1 Fw)))))*(rd 0 r7 Fw)))+(Int.tmod v55 (rd 0 r7 Fw))))).2),(q10_7.1,q10_7.2)) h rfl (R4 (K0 (gI q (fun q=>?_)))))
    refine AI TV (OL (EI ((i64.wrap (v55+1)),(List.set l3 (Int.toNat (i64.wrap ((i64.wrap ((i64.wrap (Int.tdiv v55 (i64.wrap ((rd 0 r7 Fw)*(rd 0 a.1 Fw)))))*(rd 0 r7 Fw)))+(Int.tmod v55 (rd 0 r7 Fw))))) (q10_8.1,q10_8.2))) (AI q (E4 I4 (R6 (AI (R4 TV) (R4 TV)))))))
   cases sE q
   refine E4 (iuR [2,3,4]) (AI rfl (AI (R3 TV) (R3 TV)))
  refine AI (OL ?_) TV
  obtain ⟨q10_10,h,q⟩:=bE q
  refine OL (cD H22 (((([]:LI)++(List.take (Int.toNat Fw) a.1))++(List.drop (Int.toNat (i64.wrap (Fw+1))) a.1)),(0:Int)) h rfl (R2 (AI (fun _=>rfl) (R2 (AI TV (AI TV (OL (OL (OL ?_)))))))))
  obtain ⟨z9,h,q⟩:=bE q
  refine lJ h (fun x=>⟨[(4,P0 0 0),(12,P0 1 0),(91,O0 2),(92,.dat T2 (z8.length:Int)),(93,.dat T2 x.1)],[(0,.cells [N0,N0]),(1,.cells [(.osl 3),(.osl 4)]),(2,.arr 113 T5 z8),(3,.arr 3 T2 q10_10.2.1),(4,.arr 42 T2 x.2)],5⟩) (fun z=>[(4,⟨[(4,P0 0 0),(12,P0 1 0)],[(0,.cells [N0,N0]),(1,.cells [(.osl 2),(.osl 3)]),(2,.arr 3 T2 q10_10.2.1),(3,.arr 42 T2 z)],4⟩)]) (E4 (iuR [1,6,3,4,5]) (R3 (AI (R3 TV) (R5 TV)))) (fun m=>F6 (fun v93=>fun l4 z q=>?_)) ?_
  ·have q:f96_l5 z8 _ v93 l4=some z:=q
   unfold f96_l5 at q
   refine OL (OL (cI q (fun q=>?_) (fun q=>?_)))
   ·refine OL (OL (gI q (fun q=>?_)))
    refine OL (EI (tU 0 4 (.alt 4 (.take 5 (.alt 6 .done .done)) .done)) (EI [] (EI [] (AI rfl (AI TV ?_)))))
    obtain ⟨q16_4,h,q⟩:=bE q
    refine OL (cA H127 ((rd (Ty.z T5) z8 v93).1,(rd (Ty.z T5) z8 v93).2) h rfl (R2 (K0 (gI q (fun q=>?_)))))
    refine AI TV (OL (EI ((i64.wrap (v93+1)),(List.set l4 (Int.toNat v93) q16_4)) (AI q (E4 I5 (R3 (AI (R3 TV) (R5 TV)))))))
   cases sE q
   refine E4 (iuR [1,2,4,5]) (AI rfl (AI (R2 TV) (R4 TV)))
  refine AI (OL (OL ?_)) TV
  cases sE q
  refine AI rfl (E4 (iuR [3,4]) (R2 (AJ (R2 TV))))
 dsimp only [Fz] at q
 refine AI ?_ TV
 cases sE q
 refine AI rfl (E4 (iuR [0,0]) (R2 (AJ (R2 TV))))
theorem H96:HI C96 96:=hI Tryz.f96 rfl fun x=>V96 x.1 x.2
def f143_l1 (v:LI) (go:PTz7→Option Gm) (v9 c1_0 c1_1:Int):Option Gm:=
 bif (decide (v9<v.length)) then
 E9 (0≤v9∧v9<v.length)<|
 Ey (f77 (rd 0 v v9)) fun q5_2=>
 Ey (f142 (c1_0,c1_1) (q5_2.1,q5_2.2)) fun q5_3=>
 go ((i64.wrap (v9+1)),q5_3.1,q5_3.2)
 else
 some (c1_0,c1_1)
def f143 (v:LI):Option Gm:=
 Ey (Fp (fun go x=>f143_l1 v go x.1 x.2.1 x.2.2) Fv ((0:Int),(0:Int),(0:Int))) fun z1=>
 some (z1.1,z1.2)
def C143:Con:=⟨LI,Gm,0,fun x=>[.dat T1 x],NX,fun x=>f143 x,fun y=>[.raw true [(.d T2 y.1),(.d T4 y.2)]],NX,0⟩
theorem V143 v y (q:f143 v=some y):VC Tryz.f143 C143 v y:=by
 unfold f143 at q
 refine OL (OL (OL (OL (OL ?_))))
 obtain ⟨z1,h,q⟩:=bE q
 refine lJ h (fun x=>⟨[(2,P0 0 0),(3,P0 1 0),(7,.dat T1 v),(8,.dat T2 (v.length:Int)),(9,.dat T2 x.1)],[(0,.cells [(.d T2 (0:Int)),(.d T4 (0:Int))]),(1,.cells [(.d T2 x.2.1),(.d T4 x.2.2)])],2⟩) (fun z=>[(2,⟨[(2,P0 0 0),(3,P0 1 0)],[(0,.cells [(.d T2 (0:Int)),(.d T4 (0:Int))]),(1,.cells [(.d T2 z.1),(.d T4 z.2)])],2⟩)]) (E4 I2 (R4 (AI (R2 TV) (R2 TV)))) (fun m=>F6 (fun v9=>F6 (fun c1_0=>fun c1_1 z q=>?_))) ?_
 ·have q:f143_l1 v _ v9 c1_0 c1_1=some z:=q
  unfold f143_l1 at q
  refine OL (OL (cI q (fun q=>?_) (fun q=>?_)))
  ·refine OL (OL (gI q (fun q=>?_)))
   refine EI (.take 0 (.take 1 (.alt 2 (.alt 3 (.alt 4 .done .done) .done) .done))) (EI [(4,[1])] (EI [] (AI rfl (AI TV ?_))))
   obtain ⟨q5_2,h,q⟩:=bE q
   refine OL (cA H77 (rd (0:Int) v v9) h rfl (AI rfl (K0 (AI TV ?_))))
   obtain ⟨q5_3,h,q⟩:=bE q
   refine OL (cA H142 ((c1_0,c1_1),(q5_2.1,q5_2.2)) h rfl (R4 (K0 (AI TV (OL (EI ((i64.wrap (v9+1)),q5_3.1,q5_3.2) (AI q (E4 I2 (R4 (AI (R2 TV) (R2 TV)))))))))))
  cases sE q
  refine E4 I2 (AI rfl (AI (R2 TV) (R2 TV)))
 refine AI (OL (OL ?_)) TV
 cases sE q
 refine AI rfl (E4 [] (AI rfl (AJ TV)))
theorem H143:HI C143 143:=hI Tryz.f143 rfl fun x=>V143 x
def f98 (a:Fx):Option Gm:=
 Ey (f28 (a.1,a.2)) fun r1=>
 bif (!r1) then
 some ((0:Int),(1:Int))
 else
 Ey (f143 a.2) fun r2=>
 Ey (f127 (r2.1,r2.2)) fun r3=>
 some (r3,(0:Int))
def C98:Con:=⟨Fx,Gm,0,fun x=>[.dat T3 x],NX,fun x=>f98 x,fun y=>[.dat T2 y.1,.dat T2 y.2],NX,0⟩
theorem V98 a y (q:f98 a=some y):VC Tryz.f98 C98 a y:=by
 unfold f98 at q
 refine OL (OL (OL ?_))
 obtain ⟨r1,h,q⟩:=bE q
 refine OL (cA H28 (a.1,a.2) h rfl (R2 (K0 (cI q (fun q=>?_) (fun q=>?_)))))
 ·cases sE q
  refine OL (AI rfl (E4 [] (R3 (AI TV TV))))
 refine OL ?_
 obtain ⟨r2,h,q⟩:=bE q
 refine OL (cA H143 a.2 h rfl (AI rfl (K0 ?_)))
 obtain ⟨r3,h,q⟩:=bE q
 refine OL (cA H127 (r2.1,r2.2) h rfl (R2 (K0 ?_)))
 cases sE q
 refine AI rfl (E4 [] (R3 (AI TV TV)))
theorem H98:HI C98 98:=hI Tryz.f98 rfl fun x=>V98 x
def f97 (x_ e:Int):Option Gl:=
 bif (e != 0) then
 some (e,[],[])
 else
 Ey (f22 ([]) x_) fun r1=>
 some (r1.1,r1.2.1,r1.2.2)
def C97:Con:=⟨Gm,Gl,0,fun x=>[.dat T2 x.1,.dat T2 x.2],NX,fun x=>f97 x.1 x.2,fun y=>[.raw true [(.osl 0),(.osl 1)],.dat T2 y.1],fun y=>[(0,.arr 3 T2 y.2.1),(1,.arr 42 T2 y.2.2)],2⟩
theorem V97 x_ e y (q:f97 x_ e=some y):VC Tryz.f97 C97 (x_,e) y:=by
 unfold f97 at q
 refine OL (OL (OL (cI q (fun q=>?_) (fun q=>?_))))
 ·refine OL (OL ?_)
  cases sE q
  refine AI rfl (E4 (iuR [0,0]) (R2 (AJ (R2 TV))))
 refine OL ?_
 obtain ⟨r1,h,q⟩:=bE q
 refine OL (cA H22 ([],x_) h rfl (R2 (K0 (OL ?_))))
 cases sE q
 refine AI rfl (E4 (iuR [2,3]) (R2 (AJ (R2 TV))))
theorem H97:HI C97 97:=hI Tryz.f97 rfl fun x=>V97 x.1 x.2
def f122_j1 (a b:Gm):Option Bool:=
 bif (decide (a.1<b.1)) then
 some true
 else
 bif (a.1==b.1) then
 some (decide (a.2<b.2))
 else
 some false
def f122 (a b:Gm):Option Int:=
 Ey (f122_j1 a b) fun z1=>
 bif z1 then
 some (-1:Int)
 else
 bif (a.1==b.1&&a.2==b.2) then
 some (0:Int)
 else
 some (1:Int)
def C122:Con:=⟨Gm×Gm,Int,0,fun x=>[.dat T5 x.1,.dat T5 x.2],NX,fun x=>f122 x.1 x.2,fun y=>[.dat T2 y],NX,0⟩
theorem V122 a b y (q:f122 a b=some y):VC Tryz.f122 C122 (a,b) y:=by
 unfold f122 at q
 refine OL (OL ?_)
 obtain ⟨z1,hz1,q⟩:=bE q
 refine OQ ⟨[(0,⟨[(2,P0 0 0),(3,P0 1 0),(5,.dat .bool z1)],[(0,.cells [(.d T2 a.1),(.d T4 a.2)]),(1,.cells [(.d T2 b.1),(.d T4 b.2)])],2⟩)],?_,?_⟩
 ·have q:=hz1
  clear hz1
  unfold f122_j1 at q
  refine cN q (fun q=>?_) (fun q=>?_)
  ·refine gY (gY (gY (gY (gY (cI q (fun q=>?_) (fun q=>?_))))))
   ·refine gX (gX (gX (gX (gY (cT (cF ?_))))))
    cases sE q
    refine E4 I2 (R2 (AI (R2 TV) (R2 TV)))
   refine gM (gM (gM (gM (gY (cF (cF ?_))))))
   cases sE q
   refine E4 I2 (R2 (AI (R2 TV) (R2 TV)))
  refine gN (gN (gN (gN (gN (gN (cT ?_))))))
  cases sE q
  refine E4 I2 (R2 (AI (R2 TV) (R2 TV)))
 refine AI (cI q (fun q=>?_) (fun q=>?_)) TV
 ·cases sE q
  refine OL (AI rfl (E4 [] (R2 (AI TV TV))))
 refine OL (AI ⟨by kernel_rfl,by kernel_rfl,by decide,by decide⟩ ?_)
 refine cI q (fun q=>?_) (fun q=>?_)
 ·cases sE q
  refine OL (AI rfl (E4 [] (R2 (AI TV TV))))
 cases sE q
 refine OL (AI rfl (E4 [] (R2 (AI TV TV))))
theorem H122:HI C122 122:=hI Tryz.f122 rfl fun x=>V122 x.1 x.2
def f166_s1:ByteArray:=⟨⟨[0,1,2,2,3,3,3,3,4,4,4,4,4,4,4,4,5,5,5,5,5,5,5,5,5,5,5,5,5,5,5,5,6,6,6,6,6,6,6,6,6,6,6,6,6,6,6,6,6,6,6,6,6,6,6,6,6,6,6,6,6,6,6,6,7,7,7,7,7,7,7,7,7,7,7,7,7,7,7,7,7,7,7,7,7,7,7,7,7,7,7,7,7,7,7,7,7,7,7,7,7,7,7,7,7,7,7,7,7,7,7,7,7,7,7,7,7,7,7,7,7,7,7,7,7,7,7,7,8,8,8,8,8,8,8,8,8,8,8,8,8,8,8,8,8,8,8,8,8,8,8,8,8,8,8,8,8,8,8,8,8,8,8,8,8,8,8,8,8,8,8,8,8,8,8,8,8,8,8,8,8,8,8,8,8,8,8,8,8,8,8,8,8,8,8,8,8,8,8,8,8,8,8,8,8,8,8,8,8,8,8,8,8,8,8,8,8,8,8,8,8,8,8,8,8,8,8,8,8,8,8,8,8,8,8,8,8,8,8,8,8,8,8,8,8,8,8,8,8,8,8,8,8,8,8,8]⟩⟩
def f166_j1 (x_:Int):Option Gm:=
 bif (decide (x_≥4294967296)) then
 some ((Int.fdiv x_ (2 ^ min (Int.toNat (32:Int)) u64.bits)),(32:Int))
 else
 some (x_,(0:Int))
def f166_j2 (z1:Gm):Option Gm:=
 bif (decide (z1.1≥65536)) then
 some ((Int.fdiv z1.1 (2 ^ min (Int.toNat (16:Int)) u64.bits)),(i64.wrap (z1.2+16)))
 else
 some (z1.1,z1.2)
def f166_j3 (z2:Gm):Option Gm:=
 bif (decide (z2.1≥256)) then
 some ((Int.fdiv z2.1 (2 ^ min (Int.toNat (8:Int)) u64.bits)),(i64.wrap (z2.2+8)))
 else
 some (z2.1,z2.2)
def f166 (x_:Int):Option Int:=
 Ey (f166_j1 x_) fun z1=>
 Ey (f166_j2 z1) fun z2=>
 Ey (f166_j3 z2) fun z3=>
 E9 (0≤(u8.wrap z3.1)∧(u8.wrap z3.1)<(ByteArray.size f166_s1:Int))<|
 some (i64.wrap (z3.2+(i64.wrap (bt f166_s1 (u8.wrap z3.1)))))
def C166:Con:=⟨Int,Int,0,fun x=>[.dat T4 x],NX,fun x=>f166 x,fun y=>[.dat T2 y],NX,0⟩
theorem V166 x_ y (q:f166 x_=some y):VC Tryz.f166 C166 x_ y:=by
 unfold f166 at q
 refine OL ?_
 obtain ⟨z1,hz1,q⟩:=bE q
 refine OQ ⟨[(0,⟨[(0,.dat T4 z1.1),(2,.dat T2 z1.2)],[],0⟩)],?_,?_⟩
 ·have q:=hz1
  clear hz1
  unfold f166_j1 at q
  refine OL (cI q (fun q=>?_) (fun q=>?_))
  ·refine OL (AI (by decide) ?_)
   cases sE q
   refine E4 [] (R3 (AI TV TV))
  cases sE q
  refine E4 [] (R3 (AI TV TV))
 refine AI ?_ TV
 obtain ⟨z2,hz2,q⟩:=bE q
 refine OQ ⟨[(0,⟨[(0,.dat T4 z2.1),(2,.dat T2 z2.2)],[],0⟩)],?_,?_⟩
 ·have q:=hz2
  clear hz2
  unfold f166_j2 at q
  refine OL (cI q (fun q=>?_) (fun q=>?_))
  ·refine OL (AI (by decide) ?_)
   cases sE q
   refine E4 [] (R3 (AI TV TV))
  cases sE q
  refine E4 [] (R3 (AI TV TV))
 refine AI ?_ TV
 obtain ⟨z3,hz3,q⟩:=bE q
 refine OQ ⟨[(0,⟨[(0,.dat T4 z3.1),(2,.dat T2 z3.2)],[],0⟩)],?_,?_⟩
 ·have q:=hz3
  clear hz3
  unfold f166_j3 at q
  refine OL (cI q (fun q=>?_) (fun q=>?_))
  ·refine OL (AI (by decide) ?_)
   cases sE q
   refine E4 [] (R3 (AI TV TV))
  cases sE q
  refine E4 [] (R3 (AI TV TV))
 refine AI (OL (gI q (fun q=>?_))) TV
 cases sE q
 refine AI rfl (E4 [] (R2 (AI TV TV)))
theorem H166:HI C166 166:=hI Tryz.f166 rfl fun x=>V166 x
def f153 (x_:Int):Option Int:=
 Ey (f166 x_) fun r1=>
 some (i64.wrap ((64:Int)-r1))
def C153:Con:=⟨Int,Int,0,fun x=>[.dat T4 x],NX,fun x=>f153 x,fun y=>[.dat T2 y],NX,0⟩
theorem V153 x_ y (q:f153 x_=some y):VC Tryz.f153 C153 x_ y:=by
 unfold f153 at q
 refine OL (OL ?_)
 obtain ⟨r1,h,q⟩:=bE q
 refine OL (cA H166 x_ h rfl (AI rfl (K0 ?_)))
 cases sE q
 refine AI rfl (E4 [] (R2 (AI TV TV)))
theorem H153:HI C153 153:=hI Tryz.f153 rfl fun x=>V153 x
end Go.Proofs
