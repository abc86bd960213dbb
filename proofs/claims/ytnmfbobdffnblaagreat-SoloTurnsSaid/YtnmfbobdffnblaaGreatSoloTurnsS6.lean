import Derived.Test.YtnmfbobdffnblaaGreatSoloTurnsS5
set_option linter.unusedVariables false
set_option maxRecDepth 100000
set_option maxHeartbeats 8000000
namespace Go.Proofs
open Go.AM
open IntKind (i64 u64 i32 u32 i16 u16 i8 u8)
def f129_l1 (v:Int) (go:Bc→Option LI) (i:Int) (l3:LI):Option LI:=
 bif (decide (i<l3.length)) then
 Ad (0≤i∧i<l3.length)<|
 go ((i64.wrap (i+1)),(List.set l3 (Int.toNat i) v))
 else
 some l3
def f129 (d:LI) (v:Int):Option Al:=
 Ad ((List.length ([]:LI)+d.length)*8≤140737488355328)<|
 Ac (f160 d) fun r1=>
 Ad (0≤r1∧r1≤r1∧Int.toNat r1*8≤140737488355328)<|
 Ac (Ag (fun go x=>f129_l1 v go x.1 x.2) Ah ((0:Int),(List.replicate (Int.toNat r1) (0:Int)))) fun z2=>
 some ((([]:LI)++d),z2)
def C129:Con:=⟨LI×Int,Al,0,fun x=>[.dat T5 x.1,.dat T0 x.2],NX,fun x=>f129 x.1 x.2,fun y=>[.raw true [(.osl 0),(.osl 1)]],fun y=>[(0,.arr 3 T0 y.1),(1,.arr 26 T0 y.2)],2⟩
theorem V129 d v y (q:f129 d v=some y):VC Tryz.f129 C129 (d,v) y:=by
 unfold f129 at q
 refine OL (OL (OL (OL (gI q (fun q=>?_)))))
 obtain ⟨r1,h,q⟩:=bE q
 refine OL (cA H160 d h rfl (AI rfl (K0 (gI q (fun q=>?_)))))
 refine OL (OL (OL ?_))
 obtain ⟨z2,hz2,q⟩:=bE q
 let h0:LH:=fun zz=>(0,.cells [N0,N0])::(1,.cells [(.osl 2),(.osl 3)])::(2,.arr 3 T0 (([]:LI)++d))::zz
 refine lJ hz2 (fun x=>⟨[(1,.dat T0 v),(4,P0 0 0),(5,P0 1 0),(6,.dat T0 x.1)],h0 [(3,.arr 26 T0 x.2)],4⟩) (fun z=>[(2,⟨[(4,P0 0 0),(5,P0 1 0)],h0 [(3,.arr 26 T0 z)],4⟩)]) (E4 (iuR [1,5,3,4]) (R3 (AI (R2 TV) (R4 TV)))) (fun m=>An (fun i=>fun l3 z q=>?_)) ?_
 ·have q:f129_l1 v _ i l3=some z:=q
  unfold f129_l1 at q
  refine OL (OL (cI q (fun q=>?_) (fun q=>?_)))
  ·refine OL (gI q (fun q=>?_))
   refine OL (EI ((i64.wrap (i+1)),(List.set l3 (Int.toNat i) v)) (AI q (E4 I4 (R3 (AI (R2 TV) (R4 TV))))))
  cases sE q
  refine E4 I4 (AI rfl (AI (R2 TV) (R4 TV)))
 refine AI (OL (OL ?_)) TV
 cases sE q
 refine AI rfl (E4 (iuR [3,4]) (AI rfl (AJ (R2 TV))))
theorem H129:HI C129 129:=hI Tryz.f129 rfl fun x=>V129 x.1 x.2
def f88_l1 (a b:LI) (go:Int→Option (Sum Unit Unit)) (i:Int):Option (Sum Unit Unit):=
 bif (decide (i<a.length)) then
 Ad (0≤i∧i<a.length)<|
 Ad (0≤i∧i<b.length)<|
 bif ((rd 0 a i) != (rd 0 b i)) then
 some (Sum.inl ())
 else
 go (i64.wrap (i+1))
 else
 some (Sum.inr ())
def f88 (a b:LI):Option Bool:=
 bif ((a.length:Int) != b.length) then
 some false
 else
 Ac (Ag (fun go x=>f88_l1 a b go x) Ah (0:Int)) fun z1=>
 Ak z1 (fun z1a=>
 some false) (fun z1b=>
 some true)
def C88:Con:=⟨Al,Bool,0,fun x=>[.dat T5 x.1,.dat T5 x.2],NX,fun x=>f88 x.1 x.2,fun y=>[.dat .bool y],NX,0⟩
theorem V88 a b y (q:f88 a b=some y):VC Tryz.f88 C88 (a,b) y:=by
 unfold f88 at q
 refine OL (OL (OL (cI q (fun q=>?_) (fun q=>?_))))
 ·cases sE q
  refine OL (AI rfl (E4 [] (R2 (AI TV TV))))
 refine OL (OL ?_)
 obtain ⟨z1,h,q⟩:=bE q
 refine lJ h (fun x=>⟨[(0,.dat T5 a),(1,.dat T5 b),(5,.dat T0 x)],[],0⟩) (fun z=>Sum.elim (fun za=>[(1,⟨[(4,.dat .bool false)],[],0⟩)]) (fun zb=>[(2,⟨[],[],0⟩)]) z) (E4 [] (R4 (AI TV TV))) (fun m=>fun i z q=>?_) ?_
 ·have q:f88_l1 a b _ i=some z:=q
  unfold f88_l1 at q
  refine OL (OL (cI q (fun q=>?_) (fun q=>?_)))
  ·refine OL (OL (EI (tU 0 9 .done) (EI [] (EI [] (AI rfl (gI q (fun q=>?_)))))))
   refine gI q (fun q=>?_)
   refine cI q (fun q=>?_) (fun q=>?_)
   ·cases sE q
    refine OL (E4 [] (R2 (AI TV TV)))
   refine EI (i64.wrap (i+1)) (AI q (E4 [] (R4 (AI TV TV))))
  cases sE q
  refine E4 [] (AI rfl (AI TV TV))
 rcases z1 with z1a | z1b
 ·dsimp only [Ak] at q
  refine AI ?_ TV
  cases sE q
  refine AI rfl (E4 [] (R2 (AI TV TV)))
 dsimp only [Ak] at q
 refine AI (OL ?_) TV
 cases sE q
 refine AI rfl (E4 [] (R2 (AI TV TV)))
theorem H88:HI C88 88:=hI Tryz.f88 rfl fun x=>V88 x.1 x.2
def f165_j1 (d:LI) (at_:Int):Option (Sum Unit Unit):=
 Ac (f195 d) fun r4=>
 bif (!r4) then
 some (Sum.inr ())
 else
 bif (decide (at_<0)) then
 some (Sum.inr ())
 else
 Ac (f160 d) fun r5=>
 bif (decide (at_≥r5)) then
 some (Sum.inr ())
 else
 some (Sum.inl ())
def f165_l2 (d:LI) (go:(Int×Bc)→Option LI) (at__2 i:Int) (l0:LI):Option LI:=
 bif (decide (i≥0)) then
 Ad (0≤i∧i<d.length)<|
 Ad ((rd 0 d i)≠0)<|
 Ad (0≤i∧i<l0.length)<|
 Ad (0≤i∧i<d.length)<|
 Ad ((rd 0 d i)≠0)<|
 go ((i64.wrap (Int.tdiv at__2 (rd 0 d i))),(i64.wrap (i-1)),(List.set l0 (Int.toNat i) (Int.tmod at__2 (rd 0 d i))))
 else
 some l0
def f165 (d:LI) (at_:Int):Option (Bool×LI):=
 Ac (f165_j1 d at_) fun z3=>
 Ak z3 (fun z3a=>
 Ad (0≤(d.length:Int)∧(d.length:Int)≤d.length∧Int.toNat (d.length:Int)*8≤140737488355328)<|
 Ac (Ag (fun go x=>f165_l2 d go x.1 x.2.1 x.2.2) Ah (at_,(i64.wrap ((d.length:Int)-1)),(List.replicate (Int.toNat (d.length:Int)) (0:Int)))) fun z6=>
 some (true,z6)) (fun z3b=>
 some (false,[]))
def C165:Con:=⟨LI×Int,Bool×LI,0,fun x=>[.dat T5 x.1,.dat T0 x.2],NX,fun x=>f165 x.1 x.2,fun y=>[O0 0,.dat .bool y.1],fun y=>[(0,.arr 3 T0 y.2)],1⟩
theorem V165 d at_ y (q:f165 d at_=some y):VC Tryz.f165 C165 (d,at_) y:=by
 unfold f165 at q
 refine OL ?_
 obtain ⟨z3,hz3,q⟩:=bE q
 refine OQ ⟨Sum.elim (fun z3a=>[(0,⟨[(0,.dat T5 d),(1,.dat T0 at_)],[],0⟩)]) (fun z3b=>[(1,⟨[(4,.raw false [N0]),(5,.dat .bool false)],[],0⟩)]) z3,?_,?_⟩
 ·have q:=hz3
  clear hz3
  unfold f165_j1 at q
  refine OL ?_
  obtain ⟨r4,h,q⟩:=bE q
  refine OL (cA H195 d h rfl (AI rfl (K0 (cN q (fun q=>?_) (fun q=>?_)))))
  ·refine gY (cF (cN q (fun q=>?_) (fun q=>?_)))
   ·refine gY (gY ?_)
    obtain ⟨r5,h,q⟩:=bE q
    refine OL (cA H160 d h rfl (AI rfl (K0 (gY (cF (cI q (fun q=>?_) (fun q=>?_)))))))
    ·cases sE q
     refine OL (E4 [] (R2 (AJ TV)))
    cases sE q
    refine E4 [] (R3 (AI TV TV))
   refine gN (gN (gN (cT (cT (OL ?_)))))
   cases sE q
   refine E4 [] (R2 (AJ TV))
  refine gN (cT (gN (gN (gN (gN (cT (cT (OL ?_))))))))
  cases sE q
  refine E4 [] (R2 (AJ TV))
 rcases z3 with z3a | z3b
 ·dsimp only [Ak] at q
  refine AI (OL (gI q (fun q=>?_))) TV
  refine OL (OL ?_)
  obtain ⟨z6,h,q⟩:=bE q
  refine lJ h (fun x=>⟨[(0,.dat T5 d),(1,.dat T0 x.1),(6,O0 0),(7,.dat T0 x.2.1)],[(0,.arr 3 T0 x.2.2)],1⟩) (fun z=>[(2,⟨[(6,O0 0)],[(0,.arr 3 T0 z)],1⟩)]) (E4 (iuR [1]) (R4 (AJ (AI rfl TV)))) (fun m=>An (fun at__2=>An (fun i=>fun l0 z q=>?_))) ?_
  ·have q:f165_l2 d _ at__2 i l0=some z:=q
   unfold f165_l2 at q
   refine OL (OL (cI q (fun q=>?_) (fun q=>?_)))
   ·refine OL (OL (gI q (fun q=>?_)))
    refine gI q (fun q=>?_)
    refine gI q (fun q=>?_)
    refine OL (gI q (fun q=>?_))
    refine gI q (fun q=>?_)
    refine EI ((i64.wrap (Int.tdiv at__2 (rd 0 d i))),(i64.wrap (i-1)),(List.set l0 (Int.toNat i) (Int.tmod at__2 (rd 0 d i)))) (AI q (E4 (iuR [1]) (R4 (AJ (AI rfl TV)))))
   cases sE q
   refine E4 (iuR [1]) (AI rfl (AJ (AI rfl TV)))
  refine AI (OL ?_) TV
  cases sE q
  refine AI rfl (E4 (iuR [1]) (R2 (AJ (AI rfl TV))))
 dsimp only [Ak] at q
 refine AI ?_ TV
 cases sE q
 refine AI rfl (E4 (iuR [0]) (R2 (AJ (AI rfl TV))))
theorem H165:HI C165 165:=hI Tryz.f165 rfl fun x=>V165 x.1 x.2
def f173_j1 (big:LI) (r1:Bc):Option (Sum Unit Unit):=
 bif (r1.1 != 0) then
 some (Sum.inr ())
 else
 Ac (f88 r1.2 big) fun r4=>
 bif (!r4) then
 none
 else
 some (Sum.inl ())
def f173_j5 (d:LI) (r5:Bool×LI) (i:Int):Option Int:=
 Ad (0≤i∧i<d.length)<|
 bif ((rd 0 d i)==1) then
 some (0:Int)
 else
 some (rd 0 r5.2 (i64.wrap ((i64.wrap ((r5.2.length:Int)-d.length))+i)))
def f173_l4 (d:LI) (r5:Bool×LI) (go:Ax→Option Int) (n i:Int):Option Int:=
 bif (decide (i<d.length)) then
 Ad (0≤(i64.wrap ((i64.wrap ((r5.2.length:Int)-d.length))+i))∧(i64.wrap ((i64.wrap ((r5.2.length:Int)-d.length))+i))<r5.2.length)<|
 Ac (f173_j5 d r5 i) fun z9=>
 Ad (0≤i∧i<d.length)<|
 go ((i64.wrap ((i64.wrap (n*(rd 0 d i)))+z9)),(i64.wrap (i+1)))
 else
 some n
def f173 (d big:LI) (at_:Int):Option Ea:=
 Ac (f172 d big) fun r1=>
 Ac (f173_j1 big r1) fun z3=>
 Ak z3 (fun z3a=>
 Ac (f165 big at_) fun r5=>
 bif (!r5.1) then
 none
 else
 Ac (Ag (fun go x=>f173_l4 d r5 go x.1 x.2) Ah ((0:Int),(0:Int))) fun z8=>
 some (z8,true)) (fun z3b=>
 some ((0:Int),false))
def C173:Con:=⟨LI×LI×Int,Ea,0,fun x=>[.dat T5 x.1,.dat T5 x.2.1,.dat T0 x.2.2],NX,fun x=>f173 x.1 x.2.1 x.2.2,fun y=>[.dat T0 y.1,.dat .bool y.2],NX,0⟩
theorem V173 d big at_ y (q:f173 d big at_=some y):VC Tryz.f173 C173 (d,big,at_) y:=by
 unfold f173 at q
 refine OL (OL ?_)
 obtain ⟨r1,h,q⟩:=bE q
 refine OL (cA H172 (d,big) h rfl (R2 (K0 ?_)))
 obtain ⟨z3,hz3,q⟩:=bE q
 refine OQ ⟨Sum.elim (fun z3a=>[(0,⟨[(0,.dat T5 d),(1,.dat T5 big),(2,.dat T0 at_)],[],0⟩)]) (fun z3b=>[(1,⟨[(6,D0 0),(7,.dat .bool false)],[],0⟩)]) z3,?_,?_⟩
 ·have q:=hz3
  clear hz3
  unfold f173_j1 at q
  refine OL (cN q (fun q=>?_) (fun q=>?_))
  ·refine gY (gY ?_)
   obtain ⟨r4,h,q⟩:=bE q
   refine OL (cD H88 (r1.2,big) h rfl (R2 (AI (fun _=>rfl) (R2 (AI TV (AI TV (gY (cF (cI q (fun q=>?_) (fun q=>?_))))))))))
   ·exact nomatch q
   cases sE q
   refine E4 [] (R4 (AI TV TV))
  refine gN (gN (gN (cT (cT (OL ?_)))))
  cases sE q
  refine E4 [] (R3 (AI TV TV))
 rcases z3 with z3a | z3b
 ·dsimp only [Ak] at q
  refine AI (OL ?_) TV
  obtain ⟨r5,h,q⟩:=bE q
  refine OL (cA H165 (big,at_) h rfl (R2 (K0 (OL (OL (cI q (fun q=>?_) (fun q=>?_)))))))
  ·exact nomatch q
  refine OL (OL (OL ?_))
  obtain ⟨z8,h,q⟩:=bE q
  refine lJ h (fun x=>⟨[(0,.dat T5 d),(10,O0 0),(12,.dat T0 x.1),(13,.dat T0 x.2)],[(0,.arr 3 T0 r5.2)],1⟩) (fun z=>[(2,⟨[(12,.dat T0 z)],[],0⟩)]) (E4 (iuR [1]) (R4 (AJ (AI rfl TV)))) (fun m=>An (fun n=>fun i z q=>?_)) ?_
  ·have q:f173_l4 d r5 _ n i=some z:=q
   unfold f173_l4 at q
   refine OL (OL (cI q (fun q=>?_) (fun q=>?_)))
   ·refine OL (OL (gI q (fun q=>?_)))
    obtain ⟨z9,hz9,q⟩:=bE q
    refine OQ ⟨[(0,⟨[(0,.dat T5 d),(10,O0 0),(12,.dat T0 n),(13,.dat T0 i),(14,.dat T0 z9)],[(0,.arr 3 T0 r5.2)],1⟩)],?_,?_⟩
    ·have q:=hz9
     clear hz9
     unfold f173_j5 at q
     refine OL (gI q (fun q=>?_))
     refine cI q (fun q=>?_) (fun q=>?_)
     ·cases sE q
      refine E4 (iuR [1]) (R5 (AJ (AI rfl TV)))
     cases sE q
     refine E4 (iuR [1]) (R5 (AJ (AI rfl TV)))
    refine AI (gI q (fun q=>?_)) TV
    refine EI ((i64.wrap ((i64.wrap (n*(rd 0 d i)))+z9)),(i64.wrap (i+1))) (AI q (E4 (iuR [1]) (R4 (AJ (AI rfl TV)))))
   cases sE q
   refine E4 [] (R2 (AI TV TV))
  refine AI (OL ?_) TV
  cases sE q
  refine AI rfl (E4 [] (R3 (AI TV TV)))
 dsimp only [Ak] at q
 refine AI ?_ TV
 cases sE q
 refine AI rfl (E4 [] (R3 (AI TV TV)))
theorem H173:HI C173 173:=hI Tryz.f173 rfl fun x=>V173 x.1 x.2.1 x.2.2
def f94 (n:Int):Option Int:=
 bif (decide (n<0)) then
 some (u64.wrap ((u64.wrap (i64.wrap (0-(i64.wrap (n+1)))))+1))
 else
 some (u64.wrap n)
def C94:Con:=⟨Int,Int,0,fun x=>[.dat T0 x],NX,fun x=>f94 x,fun y=>[.dat T9 y],NX,0⟩
theorem V94 n y (q:f94 n=some y):VC Tryz.f94 C94 n y:=by
 unfold f94 at q
 refine OL (OL (OL (cI q (fun q=>?_) (fun q=>?_))))
 ·cases sE q
  refine OL (AI rfl (E4 [] (R2 (AI TV TV))))
 cases sE q
 refine OL (AI rfl (E4 [] (R2 (AI TV TV))))
theorem H94:HI C94 94:=hI Tryz.f94 rfl fun x=>V94 x
def f58 (n:Int):Option (Bool×Int):=
 Ac (f94 n) fun r1=>
 some ((decide (n<0)),r1)
def C58:Con:=⟨Int,Bool×Int,0,fun x=>[.dat T0 x],NX,fun x=>f58 x,fun y=>[.raw true [(.d .bool y.1),(.d T9 y.2),(.d T9 (0:Int)),(.d T9 (0:Int)),(.d T9 (0:Int))]],NX,0⟩
theorem V58 n y (q:f58 n=some y):VC Tryz.f58 C58 n y:=by
 unfold f58 at q
 refine OL (OL ?_)
 obtain ⟨r1,h,q⟩:=bE q
 refine OL (cA H94 n h rfl (AI rfl (K0 (OL ?_))))
 cases sE q
 refine AI rfl (E4 [] (AI rfl (AJ TV)))
theorem H58:HI C58 58:=hI Tryz.f58 rfl fun x=>V58 x
def f132_l1 (a_0 a_1 a_2 a_3 b_0 b_1 b_2 b_3:Int) (go:(Int×PTz22)→Option PTz7) (carry i c3_0 c3_1 c3_2 c3_3:Int):Option PTz7:=
 bif (decide (i<4)) then
 Ad (0≤i∧i<4)<|
 pickF i
 [(bif (decide ((u64.wrap (a_0+b_0))<a_0)) then
 go ((1:Int),(i64.wrap (i+1)),(u64.wrap ((u64.wrap (a_0+b_0))+carry)),c3_1,c3_2,c3_3)
 else
 bif (decide ((u64.wrap ((u64.wrap (a_0+b_0))+carry))<(u64.wrap (a_0+b_0)))) then
 go ((1:Int),(i64.wrap (i+1)),(u64.wrap ((u64.wrap (a_0+b_0))+carry)),c3_1,c3_2,c3_3)
 else
 go ((0:Int),(i64.wrap (i+1)),(u64.wrap ((u64.wrap (a_0+b_0))+carry)),c3_1,c3_2,c3_3)),
 (bif (decide ((u64.wrap (a_1+b_1))<a_1)) then
 go ((1:Int),(i64.wrap (i+1)),c3_0,(u64.wrap ((u64.wrap (a_1+b_1))+carry)),c3_2,c3_3)
 else
 bif (decide ((u64.wrap ((u64.wrap (a_1+b_1))+carry))<(u64.wrap (a_1+b_1)))) then
 go ((1:Int),(i64.wrap (i+1)),c3_0,(u64.wrap ((u64.wrap (a_1+b_1))+carry)),c3_2,c3_3)
 else
 go ((0:Int),(i64.wrap (i+1)),c3_0,(u64.wrap ((u64.wrap (a_1+b_1))+carry)),c3_2,c3_3)),
 (bif (decide ((u64.wrap (a_2+b_2))<a_2)) then
 go ((1:Int),(i64.wrap (i+1)),c3_0,c3_1,(u64.wrap ((u64.wrap (a_2+b_2))+carry)),c3_3)
 else
 bif (decide ((u64.wrap ((u64.wrap (a_2+b_2))+carry))<(u64.wrap (a_2+b_2)))) then
 go ((1:Int),(i64.wrap (i+1)),c3_0,c3_1,(u64.wrap ((u64.wrap (a_2+b_2))+carry)),c3_3)
 else
 go ((0:Int),(i64.wrap (i+1)),c3_0,c3_1,(u64.wrap ((u64.wrap (a_2+b_2))+carry)),c3_3)),
 (bif (decide ((u64.wrap (a_3+b_3))<a_3)) then
 go ((1:Int),(i64.wrap (i+1)),c3_0,c3_1,c3_2,(u64.wrap ((u64.wrap (a_3+b_3))+carry)))
 else
 bif (decide ((u64.wrap ((u64.wrap (a_3+b_3))+carry))<(u64.wrap (a_3+b_3)))) then
 go ((1:Int),(i64.wrap (i+1)),c3_0,c3_1,c3_2,(u64.wrap ((u64.wrap (a_3+b_3))+carry)))
 else
 go ((0:Int),(i64.wrap (i+1)),c3_0,c3_1,c3_2,(u64.wrap ((u64.wrap (a_3+b_3))+carry))))]
 else
 some (c3_0,c3_1,c3_2,c3_3)
def f132 (a_0 a_1 a_2 a_3 b_0 b_1 b_2 b_3:Int):Option PTz7:=
 Ac (Ag (fun go x=>f132_l1 a_0 a_1 a_2 a_3 b_0 b_1 b_2 b_3 go x.1 x.2.1 x.2.2.1 x.2.2.2.1 x.2.2.2.2.1 x.2.2.2.2.2) Ah ((0:Int),(0:Int),(0:Int),(0:Int),(0:Int),(0:Int))) fun z3=>
 some (z3.1,z3.2.1,z3.2.2.1,z3.2.2.2)
def C132:Con:=⟨Int×Int×Int×PTz22,PTz7,0,fun x=>[.raw true [(.d T9 x.1),(.d T9 x.2.1),(.d T9 x.2.2.1),(.d T9 x.2.2.2.1)],.raw true [(.d T9 x.2.2.2.2.1),(.d T9 x.2.2.2.2.2.1),(.d T9 x.2.2.2.2.2.2.1),(.d T9 x.2.2.2.2.2.2.2)]],NX,fun x=>f132 x.1 x.2.1 x.2.2.1 x.2.2.2.1 x.2.2.2.2.1 x.2.2.2.2.2.1 x.2.2.2.2.2.2.1 x.2.2.2.2.2.2.2,fun y=>[.raw true [(.d T9 y.1),(.d T9 y.2.1),(.d T9 y.2.2.1),(.d T9 y.2.2.2)]],NX,0⟩
theorem V132 a_0 a_1 a_2 a_3 b_0 b_1 b_2 b_3 y (q:f132 a_0 a_1 a_2 a_3 b_0 b_1 b_2 b_3=some y):VC Tryz.f132 C132 (a_0,a_1,a_2,a_3,b_0,b_1,b_2,b_3) y:=by
 unfold f132 at q
 refine OL (OL (OL (OL (OL ?_))))
 obtain ⟨z3,h,q⟩:=bE q
 refine lJ h (fun x=>⟨[(2,P0 0 0),(3,P0 1 0),(4,P0 2 0),(5,P0 3 0),(6,.dat T9 x.1),(7,.dat T0 x.2.1)],[(0,.cells [(.d T9 a_0),(.d T9 a_1),(.d T9 a_2),(.d T9 a_3)]),(1,.cells [(.d T9 b_0),(.d T9 b_1),(.d T9 b_2),(.d T9 b_3)]),(2,.cells [(.d T9 (0:Int)),(.d T9 (0:Int)),(.d T9 (0:Int)),(.d T9 (0:Int))]),(3,.cells [(.d T9 x.2.2.1),(.d T9 x.2.2.2.1),(.d T9 x.2.2.2.2.1),(.d T9 x.2.2.2.2.2)])],4⟩) (fun z=>[(2,⟨[(4,P0 0 0),(5,P0 1 0)],[(0,.cells [(.d T9 (0:Int)),(.d T9 (0:Int)),(.d T9 (0:Int)),(.d T9 (0:Int))]),(1,.cells [(.d T9 z.1),(.d T9 z.2.1),(.d T9 z.2.2.1),(.d T9 z.2.2.2)])],2⟩)]) (E4 I4 (R3 (AI (R4 TV) (R4 TV)))) (fun m=>An (fun carry=>An (fun i=>An (fun c3_0=>An (fun c3_1=>An (fun c3_2=>fun c3_3 z q=>?_)))))) ?_
 ·have q:f132_l1 a_0 a_1 a_2 a_3 b_0 b_1 b_2 b_3 _ carry i c3_0 c3_1 c3_2 c3_3=some z:=q
  unfold f132_l1 at q
  refine OL (OL (cI q (fun q=>?_) (fun q=>?_)))
  ·refine OL (OL (EI (tU 0 8 .done) (EI [] (EI [] (AI rfl (gI q (fun q=>?_)))))))
   refine AI (fun hk4=>?_) ?_
   ·have q:=Dj q hk4
    dsimp only [nthO] at q
    refine AI (rE hk4 (by decide)) (AI (fun _=>?_) (AI (fun h=>absurd (hk4.symm.trans h) (by decide)) (AI (fun h=>absurd (hk4.symm.trans h) (by decide)) (AI (fun h=>absurd (hk4.symm.trans h) (by decide)) TV))))
    refine OL (OL (AI (rE hk4 (by decide)) (AI (fun _=>?_) (AI (fun h=>absurd (hk4.symm.trans h) (by decide)) (AI (fun h=>absurd (hk4.symm.trans h) (by decide)) (AI (fun h=>absurd (hk4.symm.trans h) (by decide)) TV))))))
    refine OL (OL (AI (rE hk4 (by decide)) (AI (fun _=>?_) (AI (fun h=>absurd (hk4.symm.trans h) (by decide)) (AI (fun h=>absurd (hk4.symm.trans h) (by decide)) (AI (fun h=>absurd (hk4.symm.trans h) (by decide)) TV))))))
    refine cN q (fun q=>?_) (fun q=>?_)
    ·refine gY (gY (cF (cI q (fun q=>?_) (fun q=>?_))))
     ·refine EI ((1:Int),(i64.wrap (i+1)),(u64.wrap ((u64.wrap (a_0+b_0))+carry)),c3_1,c3_2,c3_3) (AI q (E4 I4 (R3 (AI (R4 TV) (R4 TV)))))
     refine EI ((0:Int),(i64.wrap (i+1)),(u64.wrap ((u64.wrap (a_0+b_0))+carry)),c3_1,c3_2,c3_3) (AI q (E4 I4 (R3 (AI (R4 TV) (R4 TV)))))
    refine gN (gN (cT (cT (EI ((1:Int),(i64.wrap (i+1)),(u64.wrap ((u64.wrap (a_0+b_0))+carry)),c3_1,c3_2,c3_3) (AI q (E4 I4 (R3 (AI (R4 TV) (R4 TV)))))))))
   refine AI (fun hk4=>?_) ?_
   ·have q:=Dj q hk4
    dsimp only [nthO] at q
    refine AI (rE hk4 (by decide)) (AI (fun h=>absurd (hk4.symm.trans h) (by decide)) ?_)
    refine AI (fun _=>?_) (AI (fun h=>absurd (hk4.symm.trans h) (by decide)) (AI (fun h=>absurd (hk4.symm.trans h) (by decide)) TV))
    refine OL (OL (AI (rE hk4 (by decide)) (AI (fun h=>absurd (hk4.symm.trans h) (by decide)) ?_)))
    refine AI (fun _=>?_) (AI (fun h=>absurd (hk4.symm.trans h) (by decide)) (AI (fun h=>absurd (hk4.symm.trans h) (by decide)) TV))
    refine OL (OL (AI (rE hk4 (by decide)) (AI (fun h=>absurd (hk4.symm.trans h) (by decide)) ?_)))
    refine AI (fun _=>?_) (AI (fun h=>absurd (hk4.symm.trans h) (by decide)) (AI (fun h=>absurd (hk4.symm.trans h) (by decide)) TV))
    refine cN q (fun q=>?_) (fun q=>?_)
    ·refine gY (gY (cF (cI q (fun q=>?_) (fun q=>?_))))
     ·refine EI ((1:Int),(i64.wrap (i+1)),c3_0,(u64.wrap ((u64.wrap (a_1+b_1))+carry)),c3_2,c3_3) (AI q (E4 I4 (R3 (AI (R4 TV) (R4 TV)))))
     refine EI ((0:Int),(i64.wrap (i+1)),c3_0,(u64.wrap ((u64.wrap (a_1+b_1))+carry)),c3_2,c3_3) (AI q (E4 I4 (R3 (AI (R4 TV) (R4 TV)))))
    refine gN (gN (cT (cT (EI ((1:Int),(i64.wrap (i+1)),c3_0,(u64.wrap ((u64.wrap (a_1+b_1))+carry)),c3_2,c3_3) (AI q (E4 I4 (R3 (AI (R4 TV) (R4 TV)))))))))
   refine AI (fun hk4=>?_) ?_
   ·have q:=Dj q hk4
    dsimp only [nthO] at q
    refine AI (rE hk4 (by decide)) (AI (fun h=>absurd (hk4.symm.trans h) (by decide)) ?_)
    refine AI (fun h=>absurd (hk4.symm.trans h) (by decide)) ?_
    refine AI (fun _=>?_) (AI (fun h=>absurd (hk4.symm.trans h) (by decide)) TV)
    refine OL (OL (AI (rE hk4 (by decide)) (AI (fun h=>absurd (hk4.symm.trans h) (by decide)) ?_)))
    refine AI (fun h=>absurd (hk4.symm.trans h) (by decide)) ?_
    refine AI (fun _=>?_) (AI (fun h=>absurd (hk4.symm.trans h) (by decide)) TV)
    refine OL (OL (AI (rE hk4 (by decide)) (AI (fun h=>absurd (hk4.symm.trans h) (by decide)) ?_)))
    refine AI (fun h=>absurd (hk4.symm.trans h) (by decide)) ?_
    refine AI (fun _=>?_) (AI (fun h=>absurd (hk4.symm.trans h) (by decide)) TV)
    refine cN q (fun q=>?_) (fun q=>?_)
    ·refine gY (gY (cF (cI q (fun q=>?_) (fun q=>?_))))
     ·refine EI ((1:Int),(i64.wrap (i+1)),c3_0,c3_1,(u64.wrap ((u64.wrap (a_2+b_2))+carry)),c3_3) (AI q (E4 I4 (R3 (AI (R4 TV) (R4 TV)))))
     refine EI ((0:Int),(i64.wrap (i+1)),c3_0,c3_1,(u64.wrap ((u64.wrap (a_2+b_2))+carry)),c3_3) (AI q (E4 I4 (R3 (AI (R4 TV) (R4 TV)))))
    refine gN (gN (cT (cT (EI ((1:Int),(i64.wrap (i+1)),c3_0,c3_1,(u64.wrap ((u64.wrap (a_2+b_2))+carry)),c3_3) (AI q (E4 I4 (R3 (AI (R4 TV) (R4 TV)))))))))
   refine AI (fun hk4=>?_) TV
   have q:=Dj q hk4
   dsimp only [nthO] at q
   refine AI (rE hk4 (by decide)) (AI (fun h=>absurd (hk4.symm.trans h) (by decide)) ?_)
   refine AI (fun h=>absurd (hk4.symm.trans h) (by decide)) ?_
   refine AI (fun h=>absurd (hk4.symm.trans h) (by decide)) ?_
   refine AI (fun _=>?_) TV
   refine OL (OL (AI (rE hk4 (by decide)) (AI (fun h=>absurd (hk4.symm.trans h) (by decide)) ?_)))
   refine AI (fun h=>absurd (hk4.symm.trans h) (by decide)) ?_
   refine AI (fun h=>absurd (hk4.symm.trans h) (by decide)) ?_
   refine AI (fun _=>?_) TV
   refine OL (OL (AI (rE hk4 (by decide)) (AI (fun h=>absurd (hk4.symm.trans h) (by decide)) ?_)))
   refine AI (fun h=>absurd (hk4.symm.trans h) (by decide)) ?_
   refine AI (fun h=>absurd (hk4.symm.trans h) (by decide)) ?_
   refine AI (fun _=>?_) TV
   refine cN q (fun q=>?_) (fun q=>?_)
   ·refine gY (gY (cF (cI q (fun q=>?_) (fun q=>?_))))
    ·refine EI ((1:Int),(i64.wrap (i+1)),c3_0,c3_1,c3_2,(u64.wrap ((u64.wrap (a_3+b_3))+carry))) (AI q (E4 I4 (R3 (AI (R4 TV) (R4 TV)))))
    refine EI ((0:Int),(i64.wrap (i+1)),c3_0,c3_1,c3_2,(u64.wrap ((u64.wrap (a_3+b_3))+carry))) (AI q (E4 I4 (R3 (AI (R4 TV) (R4 TV)))))
   refine gN (gN (cT (cT (EI ((1:Int),(i64.wrap (i+1)),c3_0,c3_1,c3_2,(u64.wrap ((u64.wrap (a_3+b_3))+carry))) (AI q (E4 I4 (R3 (AI (R4 TV) (R4 TV)))))))))
  cases sE q
  refine E4 (iuR [3,4]) (AI rfl (AI (R2 TV) (R2 TV)))
 refine AI (OL (OL ?_)) TV
 cases sE q
 refine AI rfl (E4 [] (AI rfl (AJ TV)))
theorem H132:HI C132 132:=hI Tryz.f132 rfl fun x=>V132 x.1 x.2.1 x.2.2.1 x.2.2.2.1 x.2.2.2.2.1 x.2.2.2.2.2.1 x.2.2.2.2.2.2.1 x.2.2.2.2.2.2.2
def f133_l1 (a_0 a_1 a_2 a_3 b_0 b_1 b_2 b_3:Int) (go:Int→Option (Sum Bool Unit)) (i:Int):Option (Sum Bool Unit):=
 bif (decide (i≥0)) then
 Ad (0≤i∧i<4)<|
 pickF i
 [(bif (a_0 != b_0) then
 some (Sum.inl (decide (a_0<b_0)))
 else
 go (i64.wrap (i-1))),
 (bif (a_1 != b_1) then
 some (Sum.inl (decide (a_1<b_1)))
 else
 go (i64.wrap (i-1))),
 (bif (a_2 != b_2) then
 some (Sum.inl (decide (a_2<b_2)))
 else
 go (i64.wrap (i-1))),
 (bif (a_3 != b_3) then
 some (Sum.inl (decide (a_3<b_3)))
 else
 go (i64.wrap (i-1)))]
 else
 some (Sum.inr ())
def f133 (a_0 a_1 a_2 a_3 b_0 b_1 b_2 b_3:Int):Option Bool:=
 Ac (Ag (fun go x=>f133_l1 a_0 a_1 a_2 a_3 b_0 b_1 b_2 b_3 go x) Ah (3:Int)) fun z2=>
 Ak z2 (fun z2a=>
 some z2a) (fun z2b=>
 some false)
def C133:Con:=⟨Int×Int×Int×PTz22,Bool,0,fun x=>[.raw true [(.d T9 x.1),(.d T9 x.2.1),(.d T9 x.2.2.1),(.d T9 x.2.2.2.1)],.raw true [(.d T9 x.2.2.2.2.1),(.d T9 x.2.2.2.2.2.1),(.d T9 x.2.2.2.2.2.2.1),(.d T9 x.2.2.2.2.2.2.2)]],NX,fun x=>f133 x.1 x.2.1 x.2.2.1 x.2.2.2.1 x.2.2.2.2.1 x.2.2.2.2.2.1 x.2.2.2.2.2.2.1 x.2.2.2.2.2.2.2,fun y=>[.dat .bool y],NX,0⟩
theorem V133 a_0 a_1 a_2 a_3 b_0 b_1 b_2 b_3 y (q:f133 a_0 a_1 a_2 a_3 b_0 b_1 b_2 b_3=some y):VC Tryz.f133 C133 (a_0,a_1,a_2,a_3,b_0,b_1,b_2,b_3) y:=by
 unfold f133 at q
 refine OL (OL (OL ?_))
 obtain ⟨z2,h,q⟩:=bE q
 refine lJ h (fun x=>⟨[(2,P0 0 0),(3,P0 1 0),(5,.dat T0 x)],[(0,.cells [(.d T9 a_0),(.d T9 a_1),(.d T9 a_2),(.d T9 a_3)]),(1,.cells [(.d T9 b_0),(.d T9 b_1),(.d T9 b_2),(.d T9 b_3)])],2⟩) (fun z=>Sum.elim (fun za=>[(1,⟨[(4,.dat .bool za)],[],0⟩)]) (fun zb=>[(2,⟨[],[],0⟩)]) z) (E4 I2 (R2 (AI (R2 TV) (R2 TV)))) (fun m=>fun i z q=>?_) ?_
 ·have q:f133_l1 a_0 a_1 a_2 a_3 b_0 b_1 b_2 b_3 _ i=some z:=q
  unfold f133_l1 at q
  refine OL (OL (cI q (fun q=>?_) (fun q=>?_)))
  ·refine OL (OL (EI (tU 0 7 .done) (EI [] (EI [] (AI rfl (gI q (fun q=>?_)))))))
   refine AI (fun hk3=>?_) ?_
   ·have q:=Dj q hk3
    dsimp only [nthO] at q
    refine AI (rE hk3 (by decide)) (AI (fun _=>?_) (AI (fun h=>absurd (hk3.symm.trans h) (by decide)) (AI (fun h=>absurd (hk3.symm.trans h) (by decide)) (AI (fun h=>absurd (hk3.symm.trans h) (by decide)) TV))))
    refine cI q (fun q=>?_) (fun q=>?_)
    ·refine OL (EI (tU 0 8 .done) (EI [] (EI [] (AI rfl (AI (rE hk3 (by decide)) (AI (fun _=>?_) (AI (fun h=>absurd (hk3.symm.trans h) (by decide)) (AI (fun h=>absurd (hk3.symm.trans h) (by decide)) (AI (fun h=>absurd (hk3.symm.trans h) (by decide)) TV)))))))))
     refine AI (rE hk3 (by decide)) (AI (fun _=>?_) (AI (fun h=>absurd (hk3.symm.trans h) (by decide)) (AI (fun h=>absurd (hk3.symm.trans h) (by decide)) (AI (fun h=>absurd (hk3.symm.trans h) (by decide)) TV))))
     cases sE q
     refine E4 [] (R2 (AI TV TV))
    refine EI (i64.wrap (i-1)) (AI q (E4 I2 (R2 (AI (R2 TV) (R2 TV)))))
   refine AI (fun hk3=>?_) ?_
   ·have q:=Dj q hk3
    dsimp only [nthO] at q
    refine AI (rE hk3 (by decide)) (AI (fun h=>absurd (hk3.symm.trans h) (by decide)) ?_)
    refine AI (fun _=>?_) (AI (fun h=>absurd (hk3.symm.trans h) (by decide)) (AI (fun h=>absurd (hk3.symm.trans h) (by decide)) TV))
    refine cI q (fun q=>?_) (fun q=>?_)
    ·refine OL (EI (tU 0 8 .done) (EI [] (EI [] (AI rfl (AI (rE hk3 (by decide)) (AI (fun h=>absurd (hk3.symm.trans h) (by decide)) ?_))))))
     refine AI (fun _=>?_) (AI (fun h=>absurd (hk3.symm.trans h) (by decide)) (AI (fun h=>absurd (hk3.symm.trans h) (by decide)) TV))
     refine AI (rE hk3 (by decide)) (AI (fun h=>absurd (hk3.symm.trans h) (by decide)) ?_)
     refine AI (fun _=>?_) (AI (fun h=>absurd (hk3.symm.trans h) (by decide)) (AI (fun h=>absurd (hk3.symm.trans h) (by decide)) TV))
     cases sE q
     refine E4 [] (R2 (AI TV TV))
    refine EI (i64.wrap (i-1)) (AI q (E4 I2 (R2 (AI (R2 TV) (R2 TV)))))
   refine AI (fun hk3=>?_) ?_
   ·have q:=Dj q hk3
    dsimp only [nthO] at q
    refine AI (rE hk3 (by decide)) (AI (fun h=>absurd (hk3.symm.trans h) (by decide)) ?_)
    refine AI (fun h=>absurd (hk3.symm.trans h) (by decide)) ?_
    refine AI (fun _=>?_) (AI (fun h=>absurd (hk3.symm.trans h) (by decide)) TV)
    refine cI q (fun q=>?_) (fun q=>?_)
    ·refine OL (EI (tU 0 8 .done) (EI [] (EI [] (AI rfl (AI (rE hk3 (by decide)) (AI (fun h=>absurd (hk3.symm.trans h) (by decide)) ?_))))))
     refine AI (fun h=>absurd (hk3.symm.trans h) (by decide)) ?_
     refine AI (fun _=>?_) (AI (fun h=>absurd (hk3.symm.trans h) (by decide)) TV)
     refine AI (rE hk3 (by decide)) (AI (fun h=>absurd (hk3.symm.trans h) (by decide)) ?_)
     refine AI (fun h=>absurd (hk3.symm.trans h) (by decide)) ?_
     refine AI (fun _=>?_) (AI (fun h=>absurd (hk3.symm.trans h) (by decide)) TV)
     cases sE q
     refine E4 [] (R2 (AI TV TV))
    refine EI (i64.wrap (i-1)) (AI q (E4 I2 (R2 (AI (R2 TV) (R2 TV)))))
   refine AI (fun hk3=>?_) TV
   have q:=Dj q hk3
   dsimp only [nthO] at q
   refine AI (rE hk3 (by decide)) (AI (fun h=>absurd (hk3.symm.trans h) (by decide)) ?_)
   refine AI (fun h=>absurd (hk3.symm.trans h) (by decide)) ?_
   refine AI (fun h=>absurd (hk3.symm.trans h) (by decide)) ?_
   refine AI (fun _=>?_) TV
   refine cI q (fun q=>?_) (fun q=>?_)
   ·refine OL (EI (tU 0 8 .done) (EI [] (EI [] (AI rfl (AI (rE hk3 (by decide)) (AI (fun h=>absurd (hk3.symm.trans h) (by decide)) ?_))))))
    refine AI (fun h=>absurd (hk3.symm.trans h) (by decide)) ?_
    refine AI (fun h=>absurd (hk3.symm.trans h) (by decide)) ?_
    refine AI (fun _=>?_) TV
    refine AI (rE hk3 (by decide)) (AI (fun h=>absurd (hk3.symm.trans h) (by decide)) ?_)
    refine AI (fun h=>absurd (hk3.symm.trans h) (by decide)) ?_
    refine AI (fun h=>absurd (hk3.symm.trans h) (by decide)) ?_
    refine AI (fun _=>?_) TV
    cases sE q
    refine E4 [] (R2 (AI TV TV))
   refine EI (i64.wrap (i-1)) (AI q (E4 I2 (R2 (AI (R2 TV) (R2 TV)))))
  cases sE q
  refine E4 [] (AI rfl (AI TV TV))
 rcases z2 with z2a | z2b
 ·dsimp only [Ak] at q
  refine AI ?_ TV
  cases sE q
  refine AI rfl (E4 [] (R2 (AI TV TV)))
 dsimp only [Ak] at q
 refine AI (OL ?_) TV
 cases sE q
 refine AI rfl (E4 [] (R2 (AI TV TV)))
theorem H133:HI C133 133:=hI Tryz.f133 rfl fun x=>V133 x.1 x.2.1 x.2.2.1 x.2.2.2.1 x.2.2.2.2.1 x.2.2.2.2.2.1 x.2.2.2.2.2.2.1 x.2.2.2.2.2.2.2
def f134_l1 (a_0 a_1 a_2 a_3 b_0 b_1 b_2 b_3:Int) (go:(Int×PTz22)→Option PTz7) (borrow i c3_0 c3_1 c3_2 c3_3:Int):Option PTz7:=
 bif (decide (i<4)) then
 Ad (0≤i∧i<4)<|
 pickF i
 [(bif (decide (a_0<b_0)) then
 go ((1:Int),(i64.wrap (i+1)),(u64.wrap ((u64.wrap (a_0-b_0))-borrow)),c3_1,c3_2,c3_3)
 else
 bif (decide ((u64.wrap (a_0-b_0))<borrow)) then
 go ((1:Int),(i64.wrap (i+1)),(u64.wrap ((u64.wrap (a_0-b_0))-borrow)),c3_1,c3_2,c3_3)
 else
 go ((0:Int),(i64.wrap (i+1)),(u64.wrap ((u64.wrap (a_0-b_0))-borrow)),c3_1,c3_2,c3_3)),
 (bif (decide (a_1<b_1)) then
 go ((1:Int),(i64.wrap (i+1)),c3_0,(u64.wrap ((u64.wrap (a_1-b_1))-borrow)),c3_2,c3_3)
 else
 bif (decide ((u64.wrap (a_1-b_1))<borrow)) then
 go ((1:Int),(i64.wrap (i+1)),c3_0,(u64.wrap ((u64.wrap (a_1-b_1))-borrow)),c3_2,c3_3)
 else
 go ((0:Int),(i64.wrap (i+1)),c3_0,(u64.wrap ((u64.wrap (a_1-b_1))-borrow)),c3_2,c3_3)),
 (bif (decide (a_2<b_2)) then
 go ((1:Int),(i64.wrap (i+1)),c3_0,c3_1,(u64.wrap ((u64.wrap (a_2-b_2))-borrow)),c3_3)
 else
 bif (decide ((u64.wrap (a_2-b_2))<borrow)) then
 go ((1:Int),(i64.wrap (i+1)),c3_0,c3_1,(u64.wrap ((u64.wrap (a_2-b_2))-borrow)),c3_3)
 else
 go ((0:Int),(i64.wrap (i+1)),c3_0,c3_1,(u64.wrap ((u64.wrap (a_2-b_2))-borrow)),c3_3)),
 (bif (decide (a_3<b_3)) then
 go ((1:Int),(i64.wrap (i+1)),c3_0,c3_1,c3_2,(u64.wrap ((u64.wrap (a_3-b_3))-borrow)))
 else
 bif (decide ((u64.wrap (a_3-b_3))<borrow)) then
 go ((1:Int),(i64.wrap (i+1)),c3_0,c3_1,c3_2,(u64.wrap ((u64.wrap (a_3-b_3))-borrow)))
 else
 go ((0:Int),(i64.wrap (i+1)),c3_0,c3_1,c3_2,(u64.wrap ((u64.wrap (a_3-b_3))-borrow))))]
 else
 some (c3_0,c3_1,c3_2,c3_3)
def f134 (a_0 a_1 a_2 a_3 b_0 b_1 b_2 b_3:Int):Option PTz7:=
 Ac (Ag (fun go x=>f134_l1 a_0 a_1 a_2 a_3 b_0 b_1 b_2 b_3 go x.1 x.2.1 x.2.2.1 x.2.2.2.1 x.2.2.2.2.1 x.2.2.2.2.2) Ah ((0:Int),(0:Int),(0:Int),(0:Int),(0:Int),(0:Int))) fun z3=>
 some (z3.1,z3.2.1,z3.2.2.1,z3.2.2.2)
def C134:Con:=⟨Int×Int×Int×PTz22,PTz7,0,fun x=>[.raw true [(.d T9 x.1),(.d T9 x.2.1),(.d T9 x.2.2.1),(.d T9 x.2.2.2.1)],.raw true [(.d T9 x.2.2.2.2.1),(.d T9 x.2.2.2.2.2.1),(.d T9 x.2.2.2.2.2.2.1),(.d T9 x.2.2.2.2.2.2.2)]],NX,fun x=>f134 x.1 x.2.1 x.2.2.1 x.2.2.2.1 x.2.2.2.2.1 x.2.2.2.2.2.1 x.2.2.2.2.2.2.1 x.2.2.2.2.2.2.2,fun y=>[.raw true [(.d T9 y.1),(.d T9 y.2.1),(.d T9 y.2.2.1),(.d T9 y.2.2.2)]],NX,0⟩
theorem V134 a_0 a_1 a_2 a_3 b_0 b_1 b_2 b_3 y (q:f134 a_0 a_1 a_2 a_3 b_0 b_1 b_2 b_3=some y):VC Tryz.f134 C134 (a_0,a_1,a_2,a_3,b_0,b_1,b_2,b_3) y:=by
 unfold f134 at q
 refine OL (OL (OL (OL (OL ?_))))
 obtain ⟨z3,h,q⟩:=bE q
 refine lJ h (fun x=>⟨[(2,P0 0 0),(3,P0 1 0),(4,P0 2 0),(5,P0 3 0),(6,.dat T9 x.1),(7,.dat T0 x.2.1)],[(0,.cells [(.d T9 a_0),(.d T9 a_1),(.d T9 a_2),(.d T9 a_3)]),(1,.cells [(.d T9 b_0),(.d T9 b_1),(.d T9 b_2),(.d T9 b_3)]),(2,.cells [(.d T9 (0:Int)),(.d T9 (0:Int)),(.d T9 (0:Int)),(.d T9 (0:Int))]),(3,.cells [(.d T9 x.2.2.1),(.d T9 x.2.2.2.1),(.d T9 x.2.2.2.2.1),(.d T9 x.2.2.2.2.2)])],4⟩) (fun z=>[(2,⟨[(4,P0 0 0),(5,P0 1 0)],[(0,.cells [(.d T9 (0:Int)),(.d T9 (0:Int)),(.d T9 (0:Int)),(.d T9 (0:Int))]),(1,.cells [(.d T9 z.1),(.d T9 z.2.1),(.d T9 z.2.2.1),(.d T9 z.2.2.2)])],2⟩)]) (E4 I4 (R3 (AI (R4 TV) (R4 TV)))) (fun m=>An (fun borrow=>An (fun i=>An (fun c3_0=>An (fun c3_1=>An (fun c3_2=>fun c3_3 z q=>?_)))))) ?_
 ·have q:f134_l1 a_0 a_1 a_2 a_3 b_0 b_1 b_2 b_3 _ borrow i c3_0 c3_1 c3_2 c3_3=some z:=q
  unfold f134_l1 at q
  refine OL (OL (cI q (fun q=>?_) (fun q=>?_)))
  ·refine OL (OL (EI (tU 0 8 .done) (EI [] (EI [] (AI rfl (gI q (fun q=>?_)))))))
   refine AI (fun hk4=>?_) ?_
   ·have q:=Dj q hk4
    dsimp only [nthO] at q
    refine AI (rE hk4 (by decide)) (AI (fun _=>?_) (AI (fun h=>absurd (hk4.symm.trans h) (by decide)) (AI (fun h=>absurd (hk4.symm.trans h) (by decide)) (AI (fun h=>absurd (hk4.symm.trans h) (by decide)) TV))))
    refine OL (OL (AI (rE hk4 (by decide)) (AI (fun _=>?_) (AI (fun h=>absurd (hk4.symm.trans h) (by decide)) (AI (fun h=>absurd (hk4.symm.trans h) (by decide)) (AI (fun h=>absurd (hk4.symm.trans h) (by decide)) TV))))))
    refine OL (OL (EI (tU 0 12 .done) (EI [] (EI [] (AI rfl (AI (rE hk4 (by decide)) (AI (fun _=>?_) (AI (fun h=>absurd (hk4.symm.trans h) (by decide)) (AI (fun h=>absurd (hk4.symm.trans h) (by decide)) (AI (fun h=>absurd (hk4.symm.trans h) (by decide)) TV))))))))))
    refine AI (rE hk4 (by decide)) (AI (fun _=>?_) (AI (fun h=>absurd (hk4.symm.trans h) (by decide)) (AI (fun h=>absurd (hk4.symm.trans h) (by decide)) (AI (fun h=>absurd (hk4.symm.trans h) (by decide)) TV))))
    refine cN q (fun q=>?_) (fun q=>?_)
    ·refine gY (gY (cF (cI q (fun q=>?_) (fun q=>?_))))
     ·refine EI ((1:Int),(i64.wrap (i+1)),(u64.wrap ((u64.wrap (a_0-b_0))-borrow)),c3_1,c3_2,c3_3) (AI q (E4 I4 (R3 (AI (R4 TV) (R4 TV)))))
     refine EI ((0:Int),(i64.wrap (i+1)),(u64.wrap ((u64.wrap (a_0-b_0))-borrow)),c3_1,c3_2,c3_3) (AI q (E4 I4 (R3 (AI (R4 TV) (R4 TV)))))
    refine gN (gN (cT (cT (EI ((1:Int),(i64.wrap (i+1)),(u64.wrap ((u64.wrap (a_0-b_0))-borrow)),c3_1,c3_2,c3_3) (AI q (E4 I4 (R3 (AI (R4 TV) (R4 TV)))))))))
   refine AI (fun hk4=>?_) ?_
   ·have q:=Dj q hk4
    dsimp only [nthO] at q
    refine AI (rE hk4 (by decide)) (AI (fun h=>absurd (hk4.symm.trans h) (by decide)) ?_)
    refine AI (fun _=>?_) (AI (fun h=>absurd (hk4.symm.trans h) (by decide)) (AI (fun h=>absurd (hk4.symm.trans h) (by decide)) TV))
    refine OL (OL (AI (rE hk4 (by decide)) (AI (fun h=>absurd (hk4.symm.trans h) (by decide)) ?_)))
    refine AI (fun _=>?_) (AI (fun h=>absurd (hk4.symm.trans h) (by decide)) (AI (fun h=>absurd (hk4.symm.trans h) (by decide)) TV))
    refine OL (OL (EI (tU 0 12 .done) (EI [] (EI [] (AI rfl (AI (rE hk4 (by decide)) (AI (fun h=>absurd (hk4.symm.trans h) (by decide)) ?_)))))))
    refine AI (fun _=>?_) (AI (fun h=>absurd (hk4.symm.trans h) (by decide)) (AI (fun h=>absurd (hk4.symm.trans h) (by decide)) TV))
    refine AI (rE hk4 (by decide)) (AI (fun h=>absurd (hk4.symm.trans h) (by decide)) ?_)
    refine AI (fun _=>?_) (AI (fun h=>absurd (hk4.symm.trans h) (by decide)) (AI (fun h=>absurd (hk4.symm.trans h) (by decide)) TV))
    refine cN q (fun q=>?_) (fun q=>?_)
    ·refine gY (gY (cF (cI q (fun q=>?_) (fun q=>?_))))
     ·refine EI ((1:Int),(i64.wrap (i+1)),c3_0,(u64.wrap ((u64.wrap (a_1-b_1))-borrow)),c3_2,c3_3) (AI q (E4 I4 (R3 (AI (R4 TV) (R4 TV)))))
     refine EI ((0:Int),(i64.wrap (i+1)),c3_0,(u64.wrap ((u64.wrap (a_1-b_1))-borrow)),c3_2,c3_3) (AI q (E4 I4 (R3 (AI (R4 TV) (R4 TV)))))
    refine gN (gN (cT (cT (EI ((1:Int),(i64.wrap (i+1)),c3_0,(u64.wrap ((u64.wrap (a_1-b_1))-borrow)),c3_2,c3_3) (AI q (E4 I4 (R3 (AI (R4 TV) (R4 TV)))))))))
   refine AI (fun hk4=>?_) ?_
   ·have q:=Dj q hk4
    dsimp only [nthO] at q
    refine AI (rE hk4 (by decide)) (AI (fun h=>absurd (hk4.symm.trans h) (by decide)) ?_)
    refine AI (fun h=>absurd (hk4.symm.trans h) (by decide)) ?_
    refine AI (fun _=>?_) (AI (fun h=>absurd (hk4.symm.trans h) (by decide)) TV)
    refine OL (OL (AI (rE hk4 (by decide)) (AI (fun h=>absurd (hk4.symm.trans h) (by decide)) ?_)))
    refine AI (fun h=>absurd (hk4.symm.trans h) (by decide)) ?_
    refine AI (fun _=>?_) (AI (fun h=>absurd (hk4.symm.trans h) (by decide)) TV)
    refine OL (OL (EI (tU 0 12 .done) (EI [] (EI [] (AI rfl (AI (rE hk4 (by decide)) (AI (fun h=>absurd (hk4.symm.trans h) (by decide)) ?_)))))))
    refine AI (fun h=>absurd (hk4.symm.trans h) (by decide)) ?_
    refine AI (fun _=>?_) (AI (fun h=>absurd (hk4.symm.trans h) (by decide)) TV)
    refine AI (rE hk4 (by decide)) (AI (fun h=>absurd (hk4.symm.trans h) (by decide)) ?_)
    refine AI (fun h=>absurd (hk4.symm.trans h) (by decide)) ?_
    refine AI (fun _=>?_) (AI (fun h=>absurd (hk4.symm.trans h) (by decide)) TV)
    refine cN q (fun q=>?_) (fun q=>?_)
    ·refine gY (gY (cF (cI q (fun q=>?_) (fun q=>?_))))
     ·refine EI ((1:Int),(i64.wrap (i+1)),c3_0,c3_1,(u64.wrap ((u64.wrap (a_2-b_2))-borrow)),c3_3) (AI q (E4 I4 (R3 (AI (R4 TV) (R4 TV)))))
     refine EI ((0:Int),(i64.wrap (i+1)),c3_0,c3_1,(u64.wrap ((u64.wrap (a_2-b_2))-borrow)),c3_3) (AI q (E4 I4 (R3 (AI (R4 TV) (R4 TV)))))
    refine gN (gN (cT (cT (EI ((1:Int),(i64.wrap (i+1)),c3_0,c3_1,(u64.wrap ((u64.wrap (a_2-b_2))-borrow)),c3_3) (AI q (E4 I4 (R3 (AI (R4 TV) (R4 TV)))))))))
   refine AI (fun hk4=>?_) TV
   have q:=Dj q hk4
   dsimp only [nthO] at q
   refine AI (rE hk4 (by decide)) (AI (fun h=>absurd (hk4.symm.trans h) (by decide)) ?_)
   refine AI (fun h=>absurd (hk4.symm.trans h) (by decide)) ?_
   refine AI (fun h=>absurd (hk4.symm.trans h) (by decide)) ?_
   refine AI (fun _=>?_) TV
   refine OL (OL (AI (rE hk4 (by decide)) (AI (fun h=>absurd (hk4.symm.trans h) (by decide)) ?_)))
   refine AI (fun h=>absurd (hk4.symm.trans h) (by decide)) ?_
   refine AI (fun h=>absurd (hk4.symm.trans h) (by decide)) ?_
   refine AI (fun _=>?_) TV
   refine OL (OL (EI (tU 0 12 .done) (EI [] (EI [] (AI rfl (AI (rE hk4 (by decide)) (AI (fun h=>absurd (hk4.symm.trans h) (by decide)) ?_)))))))
   refine AI (fun h=>absurd (hk4.symm.trans h) (by decide)) ?_
   refine AI (fun h=>absurd (hk4.symm.trans h) (by decide)) ?_
   refine AI (fun _=>?_) TV
   refine AI (rE hk4 (by decide)) (AI (fun h=>absurd (hk4.symm.trans h) (by decide)) ?_)
   refine AI (fun h=>absurd (hk4.symm.trans h) (by decide)) ?_
   refine AI (fun h=>absurd (hk4.symm.trans h) (by decide)) ?_
   refine AI (fun _=>?_) TV
   refine cN q (fun q=>?_) (fun q=>?_)
   ·refine gY (gY (cF (cI q (fun q=>?_) (fun q=>?_))))
    ·refine EI ((1:Int),(i64.wrap (i+1)),c3_0,c3_1,c3_2,(u64.wrap ((u64.wrap (a_3-b_3))-borrow))) (AI q (E4 I4 (R3 (AI (R4 TV) (R4 TV)))))
    refine EI ((0:Int),(i64.wrap (i+1)),c3_0,c3_1,c3_2,(u64.wrap ((u64.wrap (a_3-b_3))-borrow))) (AI q (E4 I4 (R3 (AI (R4 TV) (R4 TV)))))
   refine gN (gN (cT (cT (EI ((1:Int),(i64.wrap (i+1)),c3_0,c3_1,c3_2,(u64.wrap ((u64.wrap (a_3-b_3))-borrow))) (AI q (E4 I4 (R3 (AI (R4 TV) (R4 TV)))))))))
  cases sE q
  refine E4 (iuR [3,4]) (AI rfl (AI (R2 TV) (R2 TV)))
 refine AI (OL (OL ?_)) TV
 cases sE q
 refine AI rfl (E4 [] (AI rfl (AJ TV)))
theorem H134:HI C134 134:=hI Tryz.f134 rfl fun x=>V134 x.1 x.2.1 x.2.2.1 x.2.2.2.1 x.2.2.2.2.1 x.2.2.2.2.2.1 x.2.2.2.2.2.2.1 x.2.2.2.2.2.2.2
def f92 (a_Neg:Bool) (a_M_0 a_M_1 a_M_2 a_M_3:Int) (b_Neg:Bool) (b_M_0 b_M_1 b_M_2 b_M_3:Int):Option D4:=
 bif (a_Neg==b_Neg) then
 Ac (f132 a_M_0 a_M_1 a_M_2 a_M_3 b_M_0 b_M_1 b_M_2 b_M_3) fun q2_6=>
 some (a_Neg,q2_6.1,q2_6.2.1,q2_6.2.2.1,q2_6.2.2.2)
 else
 Ac (f133 a_M_0 a_M_1 a_M_2 a_M_3 b_M_0 b_M_1 b_M_2 b_M_3) fun q2_8=>
 bif q2_8 then
 Ac (f134 b_M_0 b_M_1 b_M_2 b_M_3 a_M_0 a_M_1 a_M_2 a_M_3) fun q4_6=>
 some (b_Neg,q4_6.1,q4_6.2.1,q4_6.2.2.1,q4_6.2.2.2)
 else
 Ac (f134 a_M_0 a_M_1 a_M_2 a_M_3 b_M_0 b_M_1 b_M_2 b_M_3) fun q5_6=>
 some (a_Neg,q5_6.1,q5_6.2.1,q5_6.2.2.1,q5_6.2.2.2)
def C92:Con:=⟨Bool×Int×Int×Int×Int×D4,D4,0,fun x=>[.raw true [(.d .bool x.1),(.d T9 x.2.1),(.d T9 x.2.2.1),(.d T9 x.2.2.2.1),(.d T9 x.2.2.2.2.1)],.raw true [(.d .bool x.2.2.2.2.2.1),(.d T9 x.2.2.2.2.2.2.1),(.d T9 x.2.2.2.2.2.2.2.1),(.d T9 x.2.2.2.2.2.2.2.2.1),(.d T9 x.2.2.2.2.2.2.2.2.2)]],NX,fun x=>f92 x.1 x.2.1 x.2.2.1 x.2.2.2.1 x.2.2.2.2.1 x.2.2.2.2.2.1 x.2.2.2.2.2.2.1 x.2.2.2.2.2.2.2.1 x.2.2.2.2.2.2.2.2.1 x.2.2.2.2.2.2.2.2.2,fun y=>[.raw true [(.d .bool y.1),(.d T9 y.2.1),(.d T9 y.2.2.1),(.d T9 y.2.2.2.1),(.d T9 y.2.2.2.2)]],NX,0⟩
theorem V92 a_Neg a_M_0 a_M_1 a_M_2 a_M_3 b_Neg b_M_0 b_M_1 b_M_2 b_M_3 y (q:f92 a_Neg a_M_0 a_M_1 a_M_2 a_M_3 b_Neg b_M_0 b_M_1 b_M_2 b_M_3=some y):VC Tryz.f92 C92 (a_Neg,a_M_0,a_M_1,a_M_2,a_M_3,b_Neg,b_M_0,b_M_1,b_M_2,b_M_3) y:=by
 unfold f92 at q
 refine OL (OL (OL (cI q (fun q=>?_) (fun q=>?_))))
 ·refine OL (EI (tU 0 6 (.alt 6 (.take 7 (.alt 8 .done .done)) .done)) (EI [] (EI [] (AI rfl (AI TV ?_)))))
  obtain ⟨q2_6,h,q⟩:=bE q
  refine OL (cA H132 (a_M_0,a_M_1,a_M_2,a_M_3,b_M_0,b_M_1,b_M_2,b_M_3) h rfl (AI NH (R2 (AI (R2 TV) (AI TV (AI TV (OL ?_)))))))
  cases sE q
  refine AI rfl (E4 [] (AI rfl (AJ TV)))
 refine OL (OL ?_)
 obtain ⟨q2_8,h,q⟩:=bE q
 refine OL (cA H133 (a_M_0,a_M_1,a_M_2,a_M_3,b_M_0,b_M_1,b_M_2,b_M_3) h rfl (AI NH (R2 (AI (R2 TV) (AI TV (cI q (fun q=>?_) (fun q=>?_)))))))
 ·refine OL (EI (tU 0 6 (.alt 6 (.take 7 (.alt 8 .done .done)) .done)) (EI [] (EI [] (AI rfl (AI TV ?_)))))
  obtain ⟨q4_6,h,q⟩:=bE q
  refine OL (cA H134 (b_M_0,b_M_1,b_M_2,b_M_3,a_M_0,a_M_1,a_M_2,a_M_3) h rfl (AI NH (R2 (AI (R2 TV) (AI TV (AI TV (OL ?_)))))))
  cases sE q
  refine AI rfl (E4 [] (AI rfl (AJ TV)))
 refine OL (EI (tU 0 6 (.alt 6 (.take 7 (.alt 8 .done .done)) .done)) (EI [] (EI [] (AI rfl (AI TV ?_)))))
 obtain ⟨q5_6,h,q⟩:=bE q
 refine OL (cA H134 (a_M_0,a_M_1,a_M_2,a_M_3,b_M_0,b_M_1,b_M_2,b_M_3) h rfl (AI NH (R2 (AI (R2 TV) (AI TV (AI TV (OL ?_)))))))
 cases sE q
 refine AI rfl (E4 [] (AI rfl (AJ TV)))
theorem H92:HI C92 92:=hI Tryz.f92 rfl fun x=>V92 x.1 x.2.1 x.2.2.1 x.2.2.2.1 x.2.2.2.2.1 x.2.2.2.2.2.1 x.2.2.2.2.2.2.1 x.2.2.2.2.2.2.2.1 x.2.2.2.2.2.2.2.2.1 x.2.2.2.2.2.2.2.2.2
def f97_j3 (a_M_0 a_M_1 a_M_2 a_M_3:Int):Option Bool:=
 bif ((Af IntKind.u64 (fun p q=>p||| q) (Af IntKind.u64 (fun p q=>p||| q) a_M_1 a_M_2) a_M_3) != 0) then
 some true
 else
 some (decide (a_M_0≥9223372036854775808))
def f97_j2 (a_Neg:Bool) (a_M_0 a_M_1 a_M_2 a_M_3:Int):Option (Sum Unit Int):=
 Ac (f97_j3 a_M_0 a_M_1 a_M_2 a_M_3) fun z3=>
 bif z3 then
 bif a_Neg then
 some (Sum.inr (-9223372036854775808:Int))
 else
 some (Sum.inr (9223372036854775807:Int))
 else
 some (Sum.inl ())
def f97 (a_Neg:Bool) (a_M_0 a_M_1 a_M_2 a_M_3:Int):Option Int:=
 Ac (f97_j2 a_Neg a_M_0 a_M_1 a_M_2 a_M_3) fun z2=>
 Ak z2 (fun z2a=>
 bif a_Neg then
 some (i64.wrap (0-(i64.wrap a_M_0)))
 else
 some (i64.wrap a_M_0)) (fun z2b=>
 some z2b)
def C97:Con:=⟨D4,Int,0,fun x=>[.raw true [(.d .bool x.1),(.d T9 x.2.1),(.d T9 x.2.2.1),(.d T9 x.2.2.2.1),(.d T9 x.2.2.2.2)]],NX,fun x=>f97 x.1 x.2.1 x.2.2.1 x.2.2.2.1 x.2.2.2.2,fun y=>[.dat T0 y],NX,0⟩
theorem V97 a_Neg a_M_0 a_M_1 a_M_2 a_M_3 y (q:f97 a_Neg a_M_0 a_M_1 a_M_2 a_M_3=some y):VC Tryz.f97 C97 (a_Neg,a_M_0,a_M_1,a_M_2,a_M_3) y:=by
 unfold f97 at q
 refine OL ?_
 obtain ⟨z2,hz2,q⟩:=bE q
 let h0:LH:=fun zz=>(0,.cells [(.d .bool a_Neg),(.d T9 a_M_0),(.d T9 a_M_1),(.d T9 a_M_2),(.d T9 a_M_3)])::zz
 refine OQ ⟨Sum.elim (fun z2a=>[(0,⟨[(1,P0 0 0)],h0 [],1⟩)]) (fun z2b=>[(1,⟨[(2,.dat T0 z2b)],[],0⟩)]) z2,?_,?_⟩
 ·have q:=hz2
  clear hz2
  unfold f97_j2 at q
  obtain ⟨z3,hz3,q⟩:=bE q
  refine OQ ⟨[(0,⟨[(1,P0 0 0),(20,.dat .bool z3)],h0 [],1⟩)],?_,?_⟩
  ·have q:=hz3
   clear hz3
   unfold f97_j3 at q
   refine AI (by decide) (AI (fun h=>absurd h (by decide)) ?_)
   refine AI (fun _=>?_) (AI (fun h=>absurd h (by decide)) (AI (fun h=>absurd h (by decide)) TV))
   refine AI (by decide) (AI (fun h=>absurd h (by decide)) ?_)
   refine AI (fun h=>absurd h (by decide)) ?_
   refine AI (fun _=>?_) (AI (fun h=>absurd h (by decide)) TV)
   refine AI (by decide) (AI (fun h=>absurd h (by decide)) ?_)
   refine AI (fun h=>absurd h (by decide)) ?_
   refine AI (fun h=>absurd h (by decide)) ?_
   refine AI (fun _=>?_) TV
   refine cN q (fun q=>?_) (fun q=>?_)
   ·refine gY (AI (by decide) (AI (fun _=>?_) (AI (fun h=>absurd h (by decide)) (AI (fun h=>absurd h (by decide)) (AI (fun h=>absurd h (by decide)) TV)))))
    refine gY (gY (cF ?_))
    cases sE q
    refine E4 (iuR [1]) (R2 (AJ (AI rfl TV)))
   refine gN (gN (gN (cT ?_)))
   cases sE q
   refine E4 (iuR [1]) (R2 (AJ (AI rfl TV)))
  refine AI (cI q (fun q=>?_) (fun q=>?_)) TV
  ·refine OL (OL (cI q (fun q=>?_) (fun q=>?_)))
   ·cases sE q
    refine OL (E4 [] (R2 (AI TV TV)))
   cases sE q
   refine OL (E4 [] (R2 (AI TV TV)))
  cases sE q
  refine E4 (iuR [1]) (AI rfl (AJ (AI rfl TV)))
 rcases z2 with z2a | z2b
 ·dsimp only [Ak] at q
  refine AI (OL (OL (cI q (fun q=>?_) (fun q=>?_)))) TV
  ·refine OL (AI (by decide) (AI (fun _=>?_) (AI (fun h=>absurd h (by decide)) (AI (fun h=>absurd h (by decide)) (AI (fun h=>absurd h (by decide)) TV)))))
   cases sE q
   refine AI rfl (E4 [] (R2 (AI TV TV)))
  refine OL (AI (by decide) (AI (fun _=>?_) (AI (fun h=>absurd h (by decide)) (AI (fun h=>absurd h (by decide)) (AI (fun h=>absurd h (by decide)) TV)))))
  cases sE q
  refine AI rfl (E4 [] (R2 (AI TV TV)))
 dsimp only [Ak] at q
 refine AI ?_ TV
 cases sE q
 refine AI rfl (E4 [] (R2 (AI TV TV)))
theorem H97:HI C97 97:=hI Tryz.f97 rfl fun x=>V97 x.1 x.2.1 x.2.2.1 x.2.2.2.1 x.2.2.2.2
def f60 (a b:Int):Option Int:=
 Ac (f58 a) fun r1=>
 Ac (f58 b) fun r2=>
 Ac (f92 r1.1 r1.2 (0:Int) (0:Int) (0:Int) r2.1 r2.2 (0:Int) (0:Int) (0:Int)) fun r3=>
 Ac (f97 r3.1 r3.2.1 r3.2.2.1 r3.2.2.2.1 r3.2.2.2.2) fun r4=>
 some r4
def C60:Con:=⟨Ax,Int,0,fun x=>[.dat T0 x.1,.dat T0 x.2],NX,fun x=>f60 x.1 x.2,fun y=>[.dat T0 y],NX,0⟩
theorem V60 a b y (q:f60 a b=some y):VC Tryz.f60 C60 (a,b) y:=by
 unfold f60 at q
 refine OL (OL ?_)
 obtain ⟨r1,h,q⟩:=bE q
 refine OL (cA H58 a h rfl (AI rfl (K0 ?_)))
 obtain ⟨r2,h,q⟩:=bE q
 refine OL (cA H58 b h rfl (AI rfl (K0 ?_)))
 obtain ⟨r3,h,q⟩:=bE q
 refine OL (cA H92 (r1.1,r1.2,(0:Int),(0:Int),(0:Int),r2.1,r2.2,(0:Int),(0:Int),(0:Int)) h rfl (AI NH (R2 (AI (R2 TV) (AI TV ?_)))))
 obtain ⟨r4,h,q⟩:=bE q
 refine OL (cA H97 (r3.1,r3.2.1,r3.2.2.1,r3.2.2.2.1,r3.2.2.2.2) h rfl (AI NH (R2 (AJ (AI TV ?_)))))
 cases sE q
 refine AI rfl (E4 [] (R2 (AI TV TV)))
theorem H60:HI C60 60:=hI Tryz.f60 rfl fun x=>V60 x.1 x.2
def f101 (a_Neg:Bool) (a_M_0 a_M_1 a_M_2 a_M_3:Int):Option D4:=
 some ((!a_Neg),a_M_0,a_M_1,a_M_2,a_M_3)
def C101:Con:=⟨D4,D4,0,fun x=>[.raw true [(.d .bool x.1),(.d T9 x.2.1),(.d T9 x.2.2.1),(.d T9 x.2.2.2.1),(.d T9 x.2.2.2.2)]],NX,fun x=>f101 x.1 x.2.1 x.2.2.1 x.2.2.2.1 x.2.2.2.2,fun y=>[.raw true [(.d .bool y.1),(.d T9 y.2.1),(.d T9 y.2.2.1),(.d T9 y.2.2.2.1),(.d T9 y.2.2.2.2)]],NX,0⟩
theorem V101 a_Neg a_M_0 a_M_1 a_M_2 a_M_3 y (q:f101 a_Neg a_M_0 a_M_1 a_M_2 a_M_3=some y):VC Tryz.f101 C101 (a_Neg,a_M_0,a_M_1,a_M_2,a_M_3) y:=by
 unfold f101 at q
 refine OL (OL (OL ?_))
 cases sE q
 refine AI rfl (E4 [] (AI rfl (AJ TV)))
theorem H101:HI C101 101:=hI Tryz.f101 rfl fun x=>V101 x.1 x.2.1 x.2.2.1 x.2.2.2.1 x.2.2.2.2
def f62 (a b:Int):Option Int:=
 Ac (f58 a) fun r1=>
 Ac (f58 b) fun r2=>
 Ac (f101 r2.1 r2.2 (0:Int) (0:Int) (0:Int)) fun r3=>
 Ac (f92 r1.1 r1.2 (0:Int) (0:Int) (0:Int) r3.1 r3.2.1 r3.2.2.1 r3.2.2.2.1 r3.2.2.2.2) fun r4=>
 Ac (f97 r4.1 r4.2.1 r4.2.2.1 r4.2.2.2.1 r4.2.2.2.2) fun r5=>
 some r5
def C62:Con:=⟨Ax,Int,0,fun x=>[.dat T0 x.1,.dat T0 x.2],NX,fun x=>f62 x.1 x.2,fun y=>[.dat T0 y],NX,0⟩
theorem V62 a b y (q:f62 a b=some y):VC Tryz.f62 C62 (a,b) y:=by
 unfold f62 at q
 refine OL (OL ?_)
 obtain ⟨r1,h,q⟩:=bE q
 refine OL (cA H58 a h rfl (AI rfl (K0 ?_)))
 obtain ⟨r2,h,q⟩:=bE q
 refine OL (cA H58 b h rfl (AI rfl (K0 ?_)))
 obtain ⟨r3,h,q⟩:=bE q
 refine OL (cA H101 (r2.1,r2.2,(0:Int),(0:Int),(0:Int)) h rfl (AI NH (R2 (AJ (AI TV ?_)))))
 obtain ⟨r4,h,q⟩:=bE q
 refine OL (cA H92 (r1.1,r1.2,(0:Int),(0:Int),(0:Int),r3.1,r3.2.1,r3.2.2.1,r3.2.2.2.1,r3.2.2.2.2) h rfl (AI NH (R2 (AI (R2 TV) (AI TV ?_)))))
 obtain ⟨r5,h,q⟩:=bE q
 refine OL (cA H97 (r4.1,r4.2.1,r4.2.2.1,r4.2.2.2.1,r4.2.2.2.2) h rfl (AI NH (R2 (AJ (AI TV ?_)))))
 cases sE q
 refine AI rfl (E4 [] (R2 (AI TV TV)))
theorem H62:HI C62 62:=hI Tryz.f62 rfl fun x=>V62 x.1 x.2
def f100_l1 (r1 r2:Int) (go:PTz22→Option PTz7) (v40 c1_0 c1_1 c1_2 c1_3:Int):Option PTz7:=
 bif (decide (v40<2)) then
 Ad (0≤v40∧v40<2)<|
 pickF v40
 [(Ac (f132 c1_0 c1_1 c1_2 c1_3 (u64.wrap ((u64.wrap ((Af IntKind.u64 (fun p q=>p&&& q) r1 (4294967295:Int))*(Int.fdiv r2 (2 ^ min (Int.toNat (32:Int)) u64.bits))))*2 ^ min (Int.toNat (32:Int)) u64.bits)) (Int.fdiv (u64.wrap ((Af IntKind.u64 (fun p q=>p&&& q) r1 (4294967295:Int))*(Int.fdiv r2 (2 ^ min (Int.toNat (32:Int)) u64.bits)))) (2 ^ min (Int.toNat (32:Int)) u64.bits)) (0:Int) (0:Int)) fun r9=>
 go ((i64.wrap (v40+1)),r9.1,r9.2.1,r9.2.2.1,r9.2.2.2)),
 (Ac (f132 c1_0 c1_1 c1_2 c1_3 (u64.wrap ((u64.wrap ((Int.fdiv r1 (2 ^ min (Int.toNat (32:Int)) u64.bits))*(Af IntKind.u64 (fun p q=>p&&& q) r2 (4294967295:Int))))*2 ^ min (Int.toNat (32:Int)) u64.bits)) (Int.fdiv (u64.wrap ((Int.fdiv r1 (2 ^ min (Int.toNat (32:Int)) u64.bits))*(Af IntKind.u64 (fun p q=>p&&& q) r2 (4294967295:Int)))) (2 ^ min (Int.toNat (32:Int)) u64.bits)) (0:Int) (0:Int)) fun r10=>
 go ((i64.wrap (v40+1)),r10.1,r10.2.1,r10.2.2.1,r10.2.2.2))]
 else
 some (c1_0,c1_1,c1_2,c1_3)
def f100 (a b:Int):Option D4:=
 Ac (f94 a) fun r1=>
 Ac (f94 b) fun r2=>
 Ac (Ag (fun go x=>f100_l1 r1 r2 go x.1 x.2.1 x.2.2.1 x.2.2.2.1 x.2.2.2.2) Ah ((0:Int),(u64.wrap ((Af IntKind.u64 (fun p q=>p&&& q) r1 (4294967295:Int))*(Af IntKind.u64 (fun p q=>p&&& q) r2 (4294967295:Int)))),(u64.wrap ((Int.fdiv r1 (2 ^ min (Int.toNat (32:Int)) u64.bits))*(Int.fdiv r2 (2 ^ min (Int.toNat (32:Int)) u64.bits)))),(0:Int),(0:Int))) fun z7=>
 some ((!((decide (a<0))==(decide (b<0)))),z7.1,z7.2.1,z7.2.2.1,z7.2.2.2)
def C100:Con:=⟨Ax,D4,0,fun x=>[.dat T0 x.1,.dat T0 x.2],NX,fun x=>f100 x.1 x.2,fun y=>[.raw true [(.d .bool y.1),(.d T9 y.2.1),(.d T9 y.2.2.1),(.d T9 y.2.2.2.1),(.d T9 y.2.2.2.2)]],NX,0⟩
theorem V100 a b y (q:f100 a b=some y):VC Tryz.f100 C100 (a,b) y:=by
 unfold f100 at q
 refine OL (OL ?_)
 obtain ⟨r1,h,q⟩:=bE q
 refine OL (cA H94 a h rfl (AI rfl (K0 ?_)))
 obtain ⟨r2,h,q⟩:=bE q
 refine OL (cA H94 b h rfl (AI rfl (K0 (OL (AI (by decide) (AI (by decide) (OL (OL (OL (OL ?_))))))))))
 obtain ⟨z7,hz7,q⟩:=bE q
 let h0:LH:=fun zz=>(0,.cells [(.d .bool false),(.d T9 (0:Int)),(.d T9 (0:Int)),(.d T9 (0:Int)),(.d T9 (0:Int))])::zz
 refine lJ hz7 (fun x=>⟨[(0,.dat T0 a),(1,.dat T0 b),(4,P0 0 0),(11,P0 1 0),(39,.raw true [(.d T9 (u64.wrap ((Af IntKind.u64 (fun p q=>p&&& q) r1 (4294967295:Int))*(Int.fdiv r2 (2 ^ min (Int.toNat (32:Int)) u64.bits))))),(.d T9 (u64.wrap ((Int.fdiv r1 (2 ^ min (Int.toNat (32:Int)) u64.bits))*(Af IntKind.u64 (fun p q=>p&&& q) r2 (4294967295:Int)))))]),(40,.dat T0 x.1)],h0 [(1,.cells [(.d T9 x.2.1),(.d T9 x.2.2.1),(.d T9 x.2.2.2.1),(.d T9 x.2.2.2.2)])],2⟩) (fun z=>[(2,⟨[(0,.dat T0 a),(1,.dat T0 b),(4,P0 0 0),(11,P0 1 0)],h0 [(1,.cells [(.d T9 z.1),(.d T9 z.2.1),(.d T9 z.2.2.1),(.d T9 z.2.2.2)])],2⟩)]) (E4 I2 (R4 (AI (R3 TV) (R2 TV)))) (fun m=>An (fun v40=>An (fun c1_0=>An (fun c1_1=>An (fun c1_2=>fun c1_3 z q=>?_))))) ?_
 ·have q:f100_l1 r1 r2 _ v40 c1_0 c1_1 c1_2 c1_3=some z:=q
  unfold f100_l1 at q
  refine OL (OL (cI q (fun q=>?_) (fun q=>?_)))
  ·refine OL (OL (gI q (fun q=>?_)))
   refine AI (fun hk8=>?_) ?_
   ·have q:=Dj q hk8
    dsimp only [nthO] at q
    refine AI (by decide) (AI (by decide) ?_)
    obtain ⟨r9,h,q⟩:=bE q
    refine OL (cA H132 (c1_0,c1_1,c1_2,c1_3,(u64.wrap ((u64.wrap ((Af IntKind.u64 (fun p q=>p&&& q) r1 (4294967295:Int))*(Int.fdiv r2 (2 ^ min (Int.toNat (32:Int)) u64.bits))))*2 ^ min (Int.toNat (32:Int)) u64.bits)),(Int.fdiv (u64.wrap ((Af IntKind.u64 (fun p q=>p&&& q) r1 (4294967295:Int))*(Int.fdiv r2 (2 ^ min (Int.toNat (32:Int)) u64.bits)))) (2 ^ min (Int.toNat (32:Int)) u64.bits)),(0:Int),(0:Int)) h rfl ?_)
    refine AI NH (R2 (AI (R2 TV) (AI TV (OL (EI ((i64.wrap (v40+1)),r9.1,r9.2.1,r9.2.2.1,r9.2.2.2) (AI q (E4 I2 (R4 (AI (R3 TV) (R2 TV))))))))))
   refine AI (fun hk8=>?_) TV
   have q:=Dj q hk8
   dsimp only [nthO] at q
   refine AI (by decide) (AI (by decide) ?_)
   obtain ⟨r10,h,q⟩:=bE q
   refine OL (cA H132 (c1_0,c1_1,c1_2,c1_3,(u64.wrap ((u64.wrap ((Int.fdiv r1 (2 ^ min (Int.toNat (32:Int)) u64.bits))*(Af IntKind.u64 (fun p q=>p&&& q) r2 (4294967295:Int))))*2 ^ min (Int.toNat (32:Int)) u64.bits)),(Int.fdiv (u64.wrap ((Int.fdiv r1 (2 ^ min (Int.toNat (32:Int)) u64.bits))*(Af IntKind.u64 (fun p q=>p&&& q) r2 (4294967295:Int)))) (2 ^ min (Int.toNat (32:Int)) u64.bits)),(0:Int),(0:Int)) h rfl ?_)
   refine AI NH (R2 (AI (R2 TV) (AI TV (OL (EI ((i64.wrap (v40+1)),r10.1,r10.2.1,r10.2.2.1,r10.2.2.2) (AI q (E4 I2 (R4 (AI (R3 TV) (R2 TV))))))))))
  cases sE q
  refine E4 I2 (R3 (AI (R2 TV) (R2 TV)))
 refine AI (OL (OL ?_)) TV
 cases sE q
 refine AI rfl (E4 [] (AI rfl (AJ TV)))
theorem H100:HI C100 100:=hI Tryz.f100 rfl fun x=>V100 x.1 x.2
def f135 (m_0 m_1 m_2 m_3 i:Int):Option Int:=
 Ad (0≤(i64.wrap (Int.tdiv i (64:Int)))∧(i64.wrap (Int.tdiv i (64:Int)))<4)<|
 pickF (i64.wrap (Int.tdiv i (64:Int)))
 [(Ad (0≤(u64.wrap (Int.tmod i (64:Int))))<|
 some (Af IntKind.u64 (fun p q=>p&&& q) (Int.fdiv m_0 (2 ^ min (Int.toNat (u64.wrap (Int.tmod i (64:Int)))) u64.bits)) (1:Int))),
 (Ad (0≤(u64.wrap (Int.tmod i (64:Int))))<|
 some (Af IntKind.u64 (fun p q=>p&&& q) (Int.fdiv m_1 (2 ^ min (Int.toNat (u64.wrap (Int.tmod i (64:Int)))) u64.bits)) (1:Int))),
 (Ad (0≤(u64.wrap (Int.tmod i (64:Int))))<|
 some (Af IntKind.u64 (fun p q=>p&&& q) (Int.fdiv m_2 (2 ^ min (Int.toNat (u64.wrap (Int.tmod i (64:Int)))) u64.bits)) (1:Int))),
 (Ad (0≤(u64.wrap (Int.tmod i (64:Int))))<|
 some (Af IntKind.u64 (fun p q=>p&&& q) (Int.fdiv m_3 (2 ^ min (Int.toNat (u64.wrap (Int.tmod i (64:Int)))) u64.bits)) (1:Int)))]
def C135:Con:=⟨PTz22,Int,0,fun x=>[.raw true [(.d T9 x.1),(.d T9 x.2.1),(.d T9 x.2.2.1),(.d T9 x.2.2.2.1)],.dat T0 x.2.2.2.2],NX,fun x=>f135 x.1 x.2.1 x.2.2.1 x.2.2.2.1 x.2.2.2.2,fun y=>[.dat T9 y],NX,0⟩
theorem V135 m_0 m_1 m_2 m_3 i y (q:f135 m_0 m_1 m_2 m_3 i=some y):VC Tryz.f135 C135 (m_0,m_1,m_2,m_3,i) y:=by
 unfold f135 at q
 refine OL (OL (AI (by decide) (gI q (fun q=>?_))))
 refine AI (fun hk1=>?_) ?_
 ·have q:=Dj q hk1
  dsimp only [nthO] at q
  refine AI (by decide) (gI q (fun q=>?_))
  cases sE q
  refine AI rfl (E4 [] (R2 (AI TV TV)))
 refine AI (fun hk1=>?_) ?_
 ·have q:=Dj q hk1
  dsimp only [nthO] at q
  refine AI (by decide) (gI q (fun q=>?_))
  cases sE q
  refine AI rfl (E4 [] (R2 (AI TV TV)))
 refine AI (fun hk1=>?_) ?_
 ·have q:=Dj q hk1
  dsimp only [nthO] at q
  refine AI (by decide) (gI q (fun q=>?_))
  cases sE q
  refine AI rfl (E4 [] (R2 (AI TV TV)))
 refine AI (fun hk1=>?_) TV
 have q:=Dj q hk1
 dsimp only [nthO] at q
 refine AI (by decide) (gI q (fun q=>?_))
 cases sE q
 refine AI rfl (E4 [] (R2 (AI TV TV)))
theorem H135:HI C135 135:=hI Tryz.f135 rfl fun x=>V135 x.1 x.2.1 x.2.2.1 x.2.2.2.1 x.2.2.2.2
def f99_l1 (a_M_0 a_M_1 a_M_2 a_M_3 n:Int) (go:PTz22→Option PTz7) (i c2_1 c2_2 c2_3 c2_4:Int):Option PTz7:=
 bif (decide (i<256)) then
 Ac (f135 a_M_0 a_M_1 a_M_2 a_M_3 i) fun r6=>
 bif (r6==1) then
 Ad (0≤(i64.wrap (Int.tdiv (i64.wrap (i-n)) (64:Int)))∧(i64.wrap (Int.tdiv (i64.wrap (i-n)) (64:Int)))<4)<|
 pickF (i64.wrap (Int.tdiv (i64.wrap (i-n)) (64:Int)))
 [(Ad (0≤(u64.wrap (Int.tmod (i64.wrap (i-n)) (64:Int))))<|
 go ((i64.wrap (i+1)),(Af IntKind.u64 (fun p q=>p||| q) c2_1 (u64.wrap ((1:Int)*2 ^ min (Int.toNat (u64.wrap (Int.tmod (i64.wrap (i-n)) (64:Int)))) u64.bits))),c2_2,c2_3,c2_4)),
 (Ad (0≤(u64.wrap (Int.tmod (i64.wrap (i-n)) (64:Int))))<|
 go ((i64.wrap (i+1)),c2_1,(Af IntKind.u64 (fun p q=>p||| q) c2_2 (u64.wrap ((1:Int)*2 ^ min (Int.toNat (u64.wrap (Int.tmod (i64.wrap (i-n)) (64:Int)))) u64.bits))),c2_3,c2_4)),
 (Ad (0≤(u64.wrap (Int.tmod (i64.wrap (i-n)) (64:Int))))<|
 go ((i64.wrap (i+1)),c2_1,c2_2,(Af IntKind.u64 (fun p q=>p||| q) c2_3 (u64.wrap ((1:Int)*2 ^ min (Int.toNat (u64.wrap (Int.tmod (i64.wrap (i-n)) (64:Int)))) u64.bits))),c2_4)),
 (Ad (0≤(u64.wrap (Int.tmod (i64.wrap (i-n)) (64:Int))))<|
 go ((i64.wrap (i+1)),c2_1,c2_2,c2_3,(Af IntKind.u64 (fun p q=>p||| q) c2_4 (u64.wrap ((1:Int)*2 ^ min (Int.toNat (u64.wrap (Int.tmod (i64.wrap (i-n)) (64:Int)))) u64.bits)))))]
 else
 go ((i64.wrap (i+1)),c2_1,c2_2,c2_3,c2_4)
 else
 some (c2_1,c2_2,c2_3,c2_4)
def f99_j2 (a_M_0 a_M_1 a_M_2 a_M_3 n:Int):Option (Sum Unit Unit):=
 bif (n==0) then
 some (Sum.inr ())
 else
 Ac (f135 a_M_0 a_M_1 a_M_2 a_M_3 (i64.wrap (n-1))) fun r10=>
 bif (r10==0) then
 some (Sum.inr ())
 else
 some (Sum.inl ())
def f99_l3 (a_M_0 a_M_1 a_M_2 a_M_3 n:Int) (go:(Bool×Int)→Option Bool) (more:Bool) (i:Int):Option Bool:=
 bif (decide (i<(i64.wrap (n-1)))) then
 bif more then
 go (true,(i64.wrap (i+1)))
 else
 Ac (f135 a_M_0 a_M_1 a_M_2 a_M_3 i) fun r14=>
 go ((r14==1),(i64.wrap (i+1)))
 else
 some more
def f99 (a_Neg:Bool) (a_M_0 a_M_1 a_M_2 a_M_3 n:Int):Option D4:=
 Ac (Ag (fun go x=>f99_l1 a_M_0 a_M_1 a_M_2 a_M_3 n go x.1 x.2.1 x.2.2.1 x.2.2.2.1 x.2.2.2.2) Ah (n,(0:Int),(0:Int),(0:Int),(0:Int))) fun z5=>
 Ac (f99_j2 a_M_0 a_M_1 a_M_2 a_M_3 n) fun z9=>
 Ak z9 (fun z9a=>
 Ac (Ag (fun go x=>f99_l3 a_M_0 a_M_1 a_M_2 a_M_3 n go x.1 x.2) Ah (((Af IntKind.u64 (fun p q=>p&&& q) z5.1 (1:Int))==1),(0:Int))) fun z13=>
 bif z13 then
 Ac (f132 z5.1 z5.2.1 z5.2.2.1 z5.2.2.2 (1:Int) (0:Int) (0:Int) (0:Int)) fun r15=>
 some (a_Neg,r15.1,r15.2.1,r15.2.2.1,r15.2.2.2)
 else
 some (a_Neg,z5.1,z5.2.1,z5.2.2.1,z5.2.2.2)) (fun z9b=>
 some (a_Neg,z5.1,z5.2.1,z5.2.2.1,z5.2.2.2))
def C99:Con:=⟨Bool×PTz22,D4,0,fun x=>[.raw true [(.d .bool x.1),(.d T9 x.2.1),(.d T9 x.2.2.1),(.d T9 x.2.2.2.1),(.d T9 x.2.2.2.2.1)],.dat T0 x.2.2.2.2.2],NX,fun x=>f99 x.1 x.2.1 x.2.2.1 x.2.2.2.1 x.2.2.2.2.1 x.2.2.2.2.2,fun y=>[.raw true [(.d .bool y.1),(.d T9 y.2.1),(.d T9 y.2.2.1),(.d T9 y.2.2.2.1),(.d T9 y.2.2.2.2)]],NX,0⟩
theorem V99 a_Neg a_M_0 a_M_1 a_M_2 a_M_3 n y (q:f99 a_Neg a_M_0 a_M_1 a_M_2 a_M_3 n=some y):VC Tryz.f99 C99 (a_Neg,a_M_0,a_M_1,a_M_2,a_M_3,n) y:=by
 unfold f99 at q
 refine OL (OL (OL (OL (OL ?_))))
 obtain ⟨z5,hz5,q⟩:=bE q
 let e0:LE:=fun zz=>(1,.dat T0 n)::(2,P0 0 0)::(4,P0 1 0)::(5,P0 2 0)::zz
 let h1:LH:=fun zz=>(0,.cells [(.d .bool a_Neg),(.d T9 a_M_0),(.d T9 a_M_1),(.d T9 a_M_2),(.d T9 a_M_3)])::(1,.cells [(.d .bool false),(.d T9 (0:Int)),(.d T9 (0:Int)),(.d T9 (0:Int)),(.d T9 (0:Int))])::zz
 refine lJ hz5 (fun x=>⟨e0 [(6,.dat T0 x.1)],h1 [(2,.cells [(.d .bool a_Neg),(.d T9 x.2.1),(.d T9 x.2.2.1),(.d T9 x.2.2.2.1),(.d T9 x.2.2.2.2)])],3⟩) (fun z=>[(2,⟨e0 [],h1 [(2,.cells [(.d .bool a_Neg),(.d T9 z.1),(.d T9 z.2.1),(.d T9 z.2.2.1),(.d T9 z.2.2.2)])],3⟩)]) (E4 I3 (R3 (AI (R3 TV) (R3 TV)))) (fun m=>An (fun i=>An (fun c2_1=>An (fun c2_2=>An (fun c2_3=>fun c2_4 z q=>?_))))) ?_
 ·have q:f99_l1 a_M_0 a_M_1 a_M_2 a_M_3 n _ i c2_1 c2_2 c2_3 c2_4=some z:=q
  unfold f99_l1 at q
  refine OL (OL (cI q (fun q=>?_) (fun q=>?_)))
  ·refine OL (OL ?_)
   obtain ⟨r6,h,q⟩:=bE q
   refine OL (cA H135 (a_M_0,a_M_1,a_M_2,a_M_3,i) h rfl (AI rfl (AI NH (R2 (AJ (AI TV (cI q (fun q=>?_) (fun q=>?_))))))))
   ·refine AI (by decide) (AI (by decide) (gI q (fun q=>?_)))
    refine AI (fun hk7=>?_) ?_
    ·have q:=Dj q hk7
     dsimp only [nthO] at q
     refine AI (by decide) (gI q (fun q=>?_))
     refine AI (rE hk7 (by decide)) (AI (fun _=>?_) (AI (fun h=>absurd (hk7.symm.trans h) (by decide)) (AI (fun h=>absurd (hk7.symm.trans h) (by decide)) (AI (fun h=>absurd (hk7.symm.trans h) (by decide)) TV))))
     refine OL (EI ((i64.wrap (i+1)),(Af IntKind.u64 (fun p q=>p||| q) c2_1 (u64.wrap ((1:Int)*2 ^ min (Int.toNat (u64.wrap (Int.tmod (i64.wrap (i-n)) (64:Int)))) u64.bits))),c2_2,c2_3,c2_4) (AI q (E4 I3 (R3 (AI (R3 TV) (R3 TV))))))
    refine AI (fun hk7=>?_) ?_
    ·have q:=Dj q hk7
     dsimp only [nthO] at q
     refine AI (by decide) (gI q (fun q=>?_))
     refine AI (rE hk7 (by decide)) (AI (fun h=>absurd (hk7.symm.trans h) (by decide)) ?_)
     refine AI (fun _=>?_) (AI (fun h=>absurd (hk7.symm.trans h) (by decide)) (AI (fun h=>absurd (hk7.symm.trans h) (by decide)) TV))
     refine OL (EI ((i64.wrap (i+1)),c2_1,(Af IntKind.u64 (fun p q=>p||| q) c2_2 (u64.wrap ((1:Int)*2 ^ min (Int.toNat (u64.wrap (Int.tmod (i64.wrap (i-n)) (64:Int)))) u64.bits))),c2_3,c2_4) (AI q (E4 I3 (R3 (AI (R3 TV) (R3 TV))))))
    refine AI (fun hk7=>?_) ?_
    ·have q:=Dj q hk7
     dsimp only [nthO] at q
     refine AI (by decide) (gI q (fun q=>?_))
     refine AI (rE hk7 (by decide)) (AI (fun h=>absurd (hk7.symm.trans h) (by decide)) ?_)
     refine AI (fun h=>absurd (hk7.symm.trans h) (by decide)) ?_
     refine AI (fun _=>?_) (AI (fun h=>absurd (hk7.symm.trans h) (by decide)) TV)
     refine OL (EI ((i64.wrap (i+1)),c2_1,c2_2,(Af IntKind.u64 (fun p q=>p||| q) c2_3 (u64.wrap ((1:Int)*2 ^ min (Int.toNat (u64.wrap (Int.tmod (i64.wrap (i-n)) (64:Int)))) u64.bits))),c2_4) (AI q (E4 I3 (R3 (AI (R3 TV) (R3 TV))))))
    refine AI (fun hk7=>?_) TV
    have q:=Dj q hk7
    dsimp only [nthO] at q
    refine AI (by decide) (gI q (fun q=>?_))
    refine AI (rE hk7 (by decide)) (AI (fun h=>absurd (hk7.symm.trans h) (by decide)) ?_)
    refine AI (fun h=>absurd (hk7.symm.trans h) (by decide)) ?_
    refine AI (fun h=>absurd (hk7.symm.trans h) (by decide)) ?_
    refine AI (fun _=>?_) TV
    refine OL (EI ((i64.wrap (i+1)),c2_1,c2_2,c2_3,(Af IntKind.u64 (fun p q=>p||| q) c2_4 (u64.wrap ((1:Int)*2 ^ min (Int.toNat (u64.wrap (Int.tmod (i64.wrap (i-n)) (64:Int)))) u64.bits)))) (AI q (E4 I3 (R3 (AI (R3 TV) (R3 TV))))))
   refine EI ((i64.wrap (i+1)),c2_1,c2_2,c2_3,c2_4) (AI q (E4 I3 (R3 (AI (R3 TV) (R3 TV)))))
  cases sE q
  refine E4 I3 (R2 (AI (R3 TV) (R3 TV)))
 refine AI ?_ TV
 obtain ⟨z9,hz9,q⟩:=bE q
 let h2:LH:=fun zz=>h1 ((2,.cells [(.d .bool a_Neg),(.d T9 z5.1),(.d T9 z5.2.1),(.d T9 z5.2.2.1),(.d T9 z5.2.2.2)])::zz)
 refine OQ ⟨Sum.elim (fun z9a=>[(0,⟨e0 [],h2 [],3⟩)]) (fun z9b=>[(1,⟨[(4,P0 0 0)],[(0,.cells [(.d .bool a_Neg),(.d T9 z5.1),(.d T9 z5.2.1),(.d T9 z5.2.2.1),(.d T9 z5.2.2.2)])],1⟩)]) z9,?_,?_⟩
 ·have q:=hz9
  clear hz9
  unfold f99_j2 at q
  refine OL (cN q (fun q=>?_) (fun q=>?_))
  ·refine gY (gY (gY (gY ?_)))
   obtain ⟨r10,h,q⟩:=bE q
   refine OL (cA H135 (a_M_0,a_M_1,a_M_2,a_M_3,(i64.wrap (n-1))) h rfl (AI rfl (AI NH (R2 (AJ (AI TV (gY (cF (cI q (fun q=>?_) (fun q=>?_))))))))))
   ·refine OL (OL ?_)
    cases sE q
    refine E4 (iuR [2]) (AI rfl (AJ (AI rfl TV)))
   cases sE q
   refine E4 I3 (R2 (AI (R3 TV) (R3 TV)))
  refine gN (gN (gN (gN (gN (cT (cT (OL (OL ?_))))))))
  cases sE q
  refine E4 (iuR [2]) (AI rfl (AJ (AI rfl TV)))
 rcases z9 with z9a | z9b
 ·dsimp only [Ak] at q
  refine AI (OL (AI (by decide) (AI (fun _=>?_) (AI (fun h=>absurd h (by decide)) (AI (fun h=>absurd h (by decide)) (AI (fun h=>absurd h (by decide)) TV)))))) TV
  refine OL (OL ?_)
  obtain ⟨z13,h,q⟩:=bE q
  refine lJ h (fun x=>⟨e0 [(7,.dat .bool x.1),(8,.dat T0 x.2)],h2 [],3⟩) (fun z=>[(4,⟨[(4,P0 0 0),(5,P0 1 0),(7,.dat .bool z)],[(0,.cells [(.d .bool false),(.d T9 (0:Int)),(.d T9 (0:Int)),(.d T9 (0:Int)),(.d T9 (0:Int))]),(1,.cells [(.d .bool a_Neg),(.d T9 z5.1),(.d T9 z5.2.1),(.d T9 z5.2.2.1),(.d T9 z5.2.2.2)])],2⟩)]) (E4 I3 (R4 (AI (R3 TV) (R3 TV)))) (fun m=>An (fun more=>fun i z q=>?_)) ?_
  ·have q:f99_l3 a_M_0 a_M_1 a_M_2 a_M_3 n _ more i=some z:=q
   unfold f99_l3 at q
   refine OL (OL (cI q (fun q=>?_) (fun q=>?_)))
   ·refine OL (cN q (fun q=>?_) (fun q=>?_))
    ·refine gY (gY (gY ?_))
     obtain ⟨r14,h,q⟩:=bE q
     refine OL (cA H135 (a_M_0,a_M_1,a_M_2,a_M_3,i) h rfl (AI rfl (AI NH (R2 (AJ (AI TV (gY (cF (EI ((r14==1),(i64.wrap (i+1))) (AI q (E4 I3 (R4 (AI (R3 TV) (R3 TV))))))))))))))
    refine gN (gN (gN (gN (cT (EI (true,(i64.wrap (i+1))) (AI q (E4 I3 (R4 (AI (R3 TV) (R3 TV))))))))))
   cases sE q
   refine E4 (iuR [2,3]) (R2 (AI (R2 TV) (R2 TV)))
  refine AI (OL (OL (cI q (fun q=>?_) (fun q=>?_)))) TV
  ·obtain ⟨r15,h,q⟩:=bE q
   refine OL (cA H132 (z5.1,z5.2.1,z5.2.2.1,z5.2.2.2,(1:Int),(0:Int),(0:Int),(0:Int)) h rfl (AI NH (R2 (AI (R2 TV) (AI TV (OL (OL (OL ?_))))))))
   cases sE q
   refine AI rfl (E4 [] (AI rfl (AJ TV)))
  refine OL (OL ?_)
  cases sE q
  refine AI rfl (E4 [] (AI rfl (AJ TV)))
 dsimp only [Ak] at q
 refine AI ?_ TV
 cases sE q
 refine AI rfl (E4 [] (AI rfl (AJ TV)))
theorem H99:HI C99 99:=hI Tryz.f99 rfl fun x=>V99 x.1 x.2.1 x.2.2.1 x.2.2.2.1 x.2.2.2.2.1 x.2.2.2.2.2
def f61 (a b:Int):Option Int:=
 Ac (f100 a b) fun r1=>
 Ac (f99 r1.1 r1.2.1 r1.2.2.1 r1.2.2.2.1 r1.2.2.2.2 (32:Int)) fun r2=>
 Ac (f97 r2.1 r2.2.1 r2.2.2.1 r2.2.2.2.1 r2.2.2.2.2) fun r3=>
 some r3
def C61:Con:=⟨Ax,Int,0,fun x=>[.dat T0 x.1,.dat T0 x.2],NX,fun x=>f61 x.1 x.2,fun y=>[.dat T0 y],NX,0⟩
theorem V61 a b y (q:f61 a b=some y):VC Tryz.f61 C61 (a,b) y:=by
 unfold f61 at q
 refine OL (OL ?_)
 obtain ⟨r1,h,q⟩:=bE q
 refine OL (cA H100 (a,b) h rfl (R2 (K0 ?_)))
 obtain ⟨r2,h,q⟩:=bE q
 refine OL (cA H99 (r1.1,r1.2.1,r1.2.2.1,r1.2.2.2.1,r1.2.2.2.2,(32:Int)) h rfl (AI rfl (AI NH (R2 (AJ (AI TV ?_))))))
 obtain ⟨r3,h,q⟩:=bE q
 refine OL (cA H97 (r2.1,r2.2.1,r2.2.2.1,r2.2.2.2.1,r2.2.2.2.2) h rfl (AI NH (R2 (AJ (AI TV ?_)))))
 cases sE q
 refine AI rfl (E4 [] (R2 (AI TV TV)))
theorem H61:HI C61 61:=hI Tryz.f61 rfl fun x=>V61 x.1 x.2
def f131_j3 (a b:Al):Option Bool:=
 Ac (f156 (a.1,a.2)) fun r9=>
 bif (!r9) then
 some true
 else
 Ac (f156 (b.1,b.2)) fun r10=>
 some (!r10)
def f131_j2 (a b:Al):Option (Sum Unit Unit):=
 Ac (f131_j3 a b) fun z8=>
 bif z8 then
 some (Sum.inr ())
 else
 some (Sum.inl ())
def f131_l4 (op:Int) (a b:Al) (r11:Bc) (go:Bc→Option LI) (i:Int) (l6:LI):Option LI:=
 bif (decide (i<l6.length)) then
 Ac (f173 a.1 r11.2 i) fun r18=>
 Ac (f173 b.1 r11.2 i) fun r19=>
 bif (op==0) then
 Ad (0≤r18.1∧r18.1<a.2.length)<|
 Ad (0≤r19.1∧r19.1<b.2.length)<|
 Ac (f60 (rd 0 a.2 r18.1) (rd 0 b.2 r19.1)) fun q15_13=>
 Ad (0≤i∧i<l6.length)<|
 go ((i64.wrap (i+1)),(List.set l6 (Int.toNat i) q15_13))
 else
 bif (op==1) then
 Ad (0≤r18.1∧r18.1<a.2.length)<|
 Ad (0≤r19.1∧r19.1<b.2.length)<|
 Ac (f62 (rd 0 a.2 r18.1) (rd 0 b.2 r19.1)) fun q17_13=>
 Ad (0≤i∧i<l6.length)<|
 go ((i64.wrap (i+1)),(List.set l6 (Int.toNat i) q17_13))
 else
 Ad (0≤r18.1∧r18.1<a.2.length)<|
 Ad (0≤r19.1∧r19.1<b.2.length)<|
 Ac (f61 (rd 0 a.2 r18.1) (rd 0 b.2 r19.1)) fun q13_13=>
 Ad (0≤i∧i<l6.length)<|
 go ((i64.wrap (i+1)),(List.set l6 (Int.toNat i) q13_13))
 else
 some l6
def f131 (op:Int) (a b:Al):Option Bl:=
 Ac (f131_j2 a b) fun z5=>
 Ak z5 (fun z5a=>
 Ac (f172 a.1 b.1) fun r11=>
 bif (r11.1 != 0) then
 none
 else
 Ac (f129 r11.2 (0:Int)) fun r12=>
 Ac (Ag (fun go x=>f131_l4 op a b r11 go x.1 x.2) Ah ((0:Int),r12.2)) fun z17=>
 some ((0:Int),r12.1,z17)) (fun z5b=>
 some ((1:Int),[],[]))
def C131:Con:=⟨Int×Al×Al,Bl,0,fun x=>[.dat T0 x.1,.dat T8 x.2.1,.dat T8 x.2.2],NX,fun x=>f131 x.1 x.2.1 x.2.2,fun y=>[.raw true [(.osl 0),(.osl 1)],.dat T0 y.1],fun y=>[(0,.arr 3 T0 y.2.1),(1,.arr 26 T0 y.2.2)],2⟩
theorem V131 op a b y (q:f131 op a b=some y):VC Tryz.f131 C131 (op,a,b) y:=by
 unfold f131 at q
 refine OL ?_
 obtain ⟨z5,hz5,q⟩:=bE q
 let e0:LE:=fun zz=>(0,.dat T0 op)::(4,P0 0 0)::(5,P0 1 0)::(6,P0 2 0)::zz
 let h1:LH:=fun zz=>(0,.cells [(.d T5 a.1),(.d T5 a.2)])::(1,.cells [(.d T5 b.1),(.d T5 b.2)])::(2,.cells [N0,N0])::zz
 refine OQ ⟨Sum.elim (fun z5a=>[(0,⟨e0 [],h1 [],3⟩)]) (fun z5b=>[(1,⟨[(6,P0 0 0),(7,D0 1)],[(0,.cells [N0,N0])],1⟩)]) z5,?_,?_⟩
 ·have q:=hz5
  clear hz5
  unfold f131_j2 at q
  obtain ⟨z8,hz8,q⟩:=bE q
  refine OQ ⟨[(0,⟨e0 [(23,.dat .bool z8)],h1 [],3⟩)],?_,?_⟩
  ·have q:=hz8
   clear hz8
   unfold f131_j3 at q
   obtain ⟨r9,h,q⟩:=bE q
   refine OL (cA H156 (a.1,a.2) h rfl (R2 (K0 (cN q (fun q=>?_) (fun q=>?_)))))
   ·refine gY ?_
    obtain ⟨r10,h,q⟩:=bE q
    refine OL (cA H156 (b.1,b.2) h rfl (R2 (K0 (gY (cF ?_)))))
    cases sE q
    refine E4 I3 (R3 (AI (R3 TV) (R3 TV)))
   refine gN (gN (cT ?_))
   cases sE q
   refine E4 I3 (R3 (AI (R3 TV) (R3 TV)))
  refine AI (cI q (fun q=>?_) (fun q=>?_)) TV
  ·refine OL (OL ?_)
   cases sE q
   refine E4 (iuR [3]) (R2 (AJ (AI rfl TV)))
  cases sE q
  refine E4 I3 (R2 (AI (R3 TV) (R3 TV)))
 rcases z5 with z5a | z5b
 ·dsimp only [Ak] at q
  refine AI (OL ?_) TV
  obtain ⟨r11,h,q⟩:=bE q
  refine OL (cA H172 (a.1,b.1) h rfl (R2 (K0 (OL (OL (cI q (fun q=>?_) (fun q=>?_)))))))
  ·exact nomatch q
  refine OL ?_
  obtain ⟨r12,h,q⟩:=bE q
  refine OL (cD H129 (r11.2,(0:Int)) h rfl (R2 (AI (fun _=>rfl) (R2 (AI TV (AI TV (OL (OL (OL ?_)))))))))
  obtain ⟨z17,h,q⟩:=bE q
  refine lJ h (fun x=>⟨e0 [(8,O0 3),(10,P0 4 0),(11,.dat T0 x.1)],h1 [(3,.arr 3 T0 r11.2),(4,.cells [(.osl 5),(.osl 6)]),(5,.arr 3 T0 r12.1),(6,.arr 26 T0 x.2)],7⟩) (fun z=>[(2,⟨[(6,P0 0 0),(10,P0 1 0)],[(0,.cells [N0,N0]),(1,.cells [(.osl 2),(.osl 3)]),(2,.arr 3 T0 r12.1),(3,.arr 26 T0 z)],4⟩)]) (E4 (iuR [1,2,3,4,7,5,6]) (R3 (AI (R5 TV) (R7 TV)))) (fun m=>An (fun i=>fun l6 z q=>?_)) ?_
  ·have q:f131_l4 op a b r11 _ i l6=some z:=q
   unfold f131_l4 at q
   refine OL (OL (cI q (fun q=>?_) (fun q=>?_)))
   ·refine OL (OL ?_)
    obtain ⟨r18,h,q⟩:=bE q
    refine OL (cD H173 (a.1,r11.2,i) h rfl (R3 (AI (fun _=>rfl) (R2 (AI TV (AI TV (OL ?_)))))))
    obtain ⟨r19,h,q⟩:=bE q
    refine OL (cD H173 (b.1,r11.2,i) h rfl (R3 (AI (fun _=>rfl) (R2 (AI TV (AI TV (OL (OL (cI q (fun q=>?_) (fun q=>?_))))))))))
    ·refine EI (tU 0 13 (.alt 13 (.take 14 (.alt 15 .done .done)) .done)) (EI [] (EI [] (AI rfl (gI q (fun q=>?_)))))
     refine gI q (fun q=>?_)
     refine AI TV ?_
     obtain ⟨q15_13,h,q⟩:=bE q
     refine OL (cA H60 ((rd 0 a.2 r18.1),(rd 0 b.2 r19.1)) h rfl (R2 (K0 (gI q (fun q=>?_)))))
     refine AI TV (OL (EI ((i64.wrap (i+1)),(List.set l6 (Int.toNat i) q15_13)) (AI q (E4 I7 (R3 (AI (R5 TV) (R7 TV)))))))
    refine OL (cI q (fun q=>?_) (fun q=>?_))
    ·refine EI (tU 0 13 (.alt 13 (.take 14 (.alt 15 .done .done)) .done)) (EI [] (EI [] (AI rfl (gI q (fun q=>?_)))))
     refine gI q (fun q=>?_)
     refine AI TV ?_
     obtain ⟨q17_13,h,q⟩:=bE q
     refine OL (cA H62 ((rd 0 a.2 r18.1),(rd 0 b.2 r19.1)) h rfl (R2 (K0 (gI q (fun q=>?_)))))
     refine AI TV (OL (EI ((i64.wrap (i+1)),(List.set l6 (Int.toNat i) q17_13)) (AI q (E4 I7 (R3 (AI (R5 TV) (R7 TV)))))))
    refine EI (tU 0 13 (.alt 13 (.take 14 (.alt 15 .done .done)) .done)) (EI [] (EI [] (AI rfl (gI q (fun q=>?_)))))
    refine gI q (fun q=>?_)
    refine AI TV ?_
    obtain ⟨q13_13,h,q⟩:=bE q
    refine OL (cA H61 ((rd 0 a.2 r18.1),(rd 0 b.2 r19.1)) h rfl (R2 (K0 (gI q (fun q=>?_)))))
    refine AI TV (OL (EI ((i64.wrap (i+1)),(List.set l6 (Int.toNat i) q13_13)) (AI q (E4 I7 (R3 (AI (R5 TV) (R7 TV)))))))
   cases sE q
   refine E4 (iuR [3,5,6,7]) (AI rfl (AI (R2 TV) (R4 TV)))
  refine AI (OL (OL ?_)) TV
  cases sE q
  refine AI rfl (E4 (iuR [3,4]) (R2 (AJ (R2 TV))))
 dsimp only [Ak] at q
 refine AI ?_ TV
 cases sE q
 refine AI rfl (E4 (iuR [0,0]) (R2 (AJ (R2 TV))))
theorem H131:HI C131 131:=hI Tryz.f131 rfl fun x=>V131 x.1 x.2.1 x.2.2
def f197 (k:Int):Option Int:=
 bif (decide (k<(-1000000:Int))) then
 some (-1000000:Int)
 else
 bif (decide (k>1000000)) then
 some (-1000000:Int)
 else
 some k
def C197:Con:=⟨Int,Int,0,fun x=>[.dat T0 x],NX,fun x=>f197 x,fun y=>[.dat T0 y],NX,0⟩
theorem V197 k y (q:f197 k=some y):VC Tryz.f197 C197 k y:=by
 unfold f197 at q
 refine OL (OL (OL (cN q (fun q=>?_) (fun q=>?_))))
 ·refine gY (cF (cI q (fun q=>?_) (fun q=>?_)))
  ·cases sE q
   refine OL (AI rfl (E4 [] (R2 (AI TV TV))))
  cases sE q
  refine OL (AI rfl (E4 [] (R2 (AI TV TV))))
 refine gN (cT (cT (OL ?_)))
 cases sE q
 refine AI rfl (E4 [] (R2 (AI TV TV)))
theorem H197:HI C197 197:=hI Tryz.f197 rfl fun x=>V197 x
def f166_j1 (d place_:LI):Option (Sum Unit Unit):=
 Ac (f195 d) fun r2=>
 bif (!r2) then
 some (Sum.inr ())
 else
 bif ((place_.length:Int) != d.length) then
 some (Sum.inr ())
 else
 some (Sum.inl ())
def f166_j5 (d place_:LI) (i:Int):Option (Sum Unit Unit):=
 Ad (0≤i∧i<place_.length)<|
 bif (decide ((rd 0 place_ i)<0)) then
 some (Sum.inr ())
 else
 Ad (0≤i∧i<place_.length)<|
 Ad (0≤i∧i<d.length)<|
 bif (decide ((rd 0 place_ i)≥(rd 0 d i))) then
 some (Sum.inr ())
 else
 some (Sum.inl ())
def f166_l4 (d place_:LI) (go:Ax→Option (Sum Unit Int)) (at_ i:Int):Option (Sum Unit Int):=
 bif (decide (i<d.length)) then
 Ac (f166_j5 d place_ i) fun z6=>
 Ak z6 (fun z6a=>
 Ad (0≤i∧i<d.length)<|
 Ad (0≤i∧i<place_.length)<|
 go ((i64.wrap ((i64.wrap (at_*(rd 0 d i)))+(rd 0 place_ i))),(i64.wrap (i+1)))) (fun z6b=>
 some (Sum.inl ()))
 else
 some (Sum.inr at_)
def f166 (d place_:LI):Option Ea:=
 Ac (f166_j1 d place_) fun z1=>
 Ak z1 (fun z1a=>
 Ac (Ag (fun go x=>f166_l4 d place_ go x.1 x.2) Ah ((0:Int),(0:Int))) fun z5=>
 Ak z5 (fun z5a=>
 some ((0:Int),false)) (fun z5b=>
 some (z5b,true))) (fun z1b=>
 some ((0:Int),false))
def C166:Con:=⟨Al,Ea,0,fun x=>[.dat T5 x.1,.dat T5 x.2],NX,fun x=>f166 x.1 x.2,fun y=>[.dat T0 y.1,.dat .bool y.2],NX,0⟩
theorem V166 d place_ y (q:f166 d place_=some y):VC Tryz.f166 C166 (d,place_) y:=by
 unfold f166 at q
 refine OL ?_
 obtain ⟨z1,hz1,q⟩:=bE q
 let e0:LE:=fun zz=>(0,.dat T5 d)::(1,.dat T5 place_)::zz
 refine OQ ⟨Sum.elim (fun z1a=>[(0,⟨e0 [],[],0⟩)]) (fun z1b=>[(1,⟨[(4,D0 0),(5,.dat .bool false)],[],0⟩)]) z1,?_,?_⟩
 ·have q:=hz1
  clear hz1
  unfold f166_j1 at q
  refine OL ?_
  obtain ⟨r2,h,q⟩:=bE q
  refine OL (cA H195 d h rfl (AI rfl (K0 (cN q (fun q=>?_) (fun q=>?_)))))
  ·refine gY (gY (gY (gY (cF (cI q (fun q=>?_) (fun q=>?_))))))
   ·cases sE q
    refine OL (E4 [] (R3 (AI TV TV)))
   cases sE q
   refine E4 [] (R3 (AI TV TV))
  refine gN (gN (gN (gN (cT (cT (OL ?_))))))
  cases sE q
  refine E4 [] (R3 (AI TV TV))
 rcases z1 with z1a | z1b
 ·dsimp only [Ak] at q
  refine AI (OL (OL (OL ?_))) TV
  obtain ⟨z5,h,q⟩:=bE q
  refine lJ h (fun x=>⟨e0 [(6,.dat T0 x.1),(7,.dat T0 x.2)],[],0⟩) (fun z=>Sum.elim (fun za=>[(1,⟨[(4,D0 0),(5,.dat .bool false)],[],0⟩)]) (fun zb=>[(2,⟨[(6,.dat T0 zb)],[],0⟩)]) z) (E4 [] (R5 (AI TV TV))) (fun m=>An (fun at_=>fun i z q=>?_)) ?_
  ·have q:f166_l4 d place_ _ at_ i=some z:=q
   unfold f166_l4 at q
   refine OL (OL (cI q (fun q=>?_) (fun q=>?_)))
   ·refine OL ?_
    obtain ⟨z6,hz6,q⟩:=bE q
    refine OQ ⟨Sum.elim (fun z6a=>[(0,⟨e0 [(6,.dat T0 at_),(7,.dat T0 i)],[],0⟩)]) (fun z6b=>[(1,⟨[(4,D0 0),(5,.dat .bool false)],[],0⟩)]) z6,?_,?_⟩
    ·have q:=hz6
     clear hz6
     unfold f166_j5 at q
     refine OL (EI (tU 0 16 .done) (EI [] (EI [] (AI rfl (gI q (fun q=>?_))))))
     refine cN q (fun q=>?_) (fun q=>?_)
     ·refine gY (gY (gI q (fun q=>?_)))
      refine gY (gY (gY (gY (gI q (fun q=>?_)))))
      refine gY (gY (cF (cI q (fun q=>?_) (fun q=>?_))))
      ·cases sE q
       refine OL (E4 [] (R3 (AI TV TV)))
      cases sE q
      refine E4 [] (R5 (AI TV TV))
     refine gN (gN (gN (gN (gN (gN (gN (gN (cT (cT (OL ?_))))))))))
     cases sE q
     refine E4 [] (R3 (AI TV TV))
    rcases z6 with z6a | z6b
    ·dsimp only [Ak] at q
     refine AI (EI (tU 0 12 .done) (EI [] (EI [] (AI rfl (gI q (fun q=>?_)))))) TV
     refine gI q (fun q=>?_)
     refine EI ((i64.wrap ((i64.wrap (at_*(rd 0 d i)))+(rd 0 place_ i))),(i64.wrap (i+1))) (AI q (E4 [] (R5 (AI TV TV))))
    dsimp only [Ak] at q
    refine AI ?_ TV
    cases sE q
    refine E4 [] (R3 (AI TV TV))
   cases sE q
   refine E4 [] (R2 (AI TV TV))
  rcases z5 with z5a | z5b
  ·dsimp only [Ak] at q
   refine AI ?_ TV
   cases sE q
   refine AI rfl (E4 [] (R3 (AI TV TV)))
  dsimp only [Ak] at q
  refine AI (OL ?_) TV
  cases sE q
  refine AI rfl (E4 [] (R3 (AI TV TV)))
 dsimp only [Ak] at q
 refine AI ?_ TV
 cases sE q
 refine AI rfl (E4 [] (R3 (AI TV TV)))
theorem H166:HI C166 166:=hI Tryz.f166 rfl fun x=>V166 x.1 x.2
end Go.Proofs
